/-
  The arguments of a call that are read as data, as symbolic values; and what a law's statement asks of her walk.
-/
import Derived.Test.YteemgogalahhnaaEngV
import Derived.ProofKit
import Derived.OpenShut
import Derived.ShutString
import Derived.ChangeOld
import Derived.Below
namespace Go.Sx
set_option linter.unusedVariables false
set_option linter.unusedSimpArgs false
open Go Go.RowKit Go.ChangeShapes Go.WideShapes Go.ChangeAt

/-- What a cell of an argument may be. -/
inductive CS : Type
  | int (k : IntKind)
  | bool
  | str
  | sl (ks : List CS)
mutual
def HasK : CS → SV → Prop
  | .int k, x => ∃ n, x = .int k n ∧ (Lit.int k n).wf = true
  | .bool, x => ∃ b, x = .bool b
  | .str, x => ∃ s, x = .str s ∧ s.length ≤ maxLen
  | .sl ks, x => ∃ n f, x = .ros ks.length n f ∧ n ≤ maxLen ∧ ∀ i, i < n → HasKL ks (f i)
def HasKL : List CS → List SV → Prop
  | [], l => l = []
  | k :: ks, l => ∃ x r, l = x :: r ∧ HasK k x ∧ HasKL ks r
end
def fieldsK (z : TypeId → Option (List CS)) (P : Program) (off : Nat) : List Field → Option (List CS)
  | [] => some []
  | f :: fs => match z f.type with
    | some l => if f.offset = off ∧ l.length = P.cellsOf f.type then (fieldsK z P (off + l.length) fs).map (l ++ ·) else none
    | none => none
def shapeOf (P : Program) : Nat → TypeId → Option (List CS)
  | 0, _ => none
  | d + 1, t => match P.underlying t with
    | some (.int k) => some [.int k]
    | some .bool => some [.bool]
    | some .string => some [.str]
    | some (.slice e) => match shapeOf P d e with
      | some ks => if ks.length = P.cellsOf e ∧ 0 < ks.length then some [.sl ks] else none
      | none => none
    | some (.struct fs) => match fieldsK (shapeOf P d) P 0 fs.toList with
      | some ks => if ks.length = P.cellsOf t then some ks else none
      | none => none
    | some (.array n e) => match shapeOf P d e with
      | some ks => if ks.length = P.cellsOf e ∧ n * ks.length = P.cellsOf t then some (List.replicate n ks).flatten else none
      | none => none
    | _ => none
theorem HasKL_length : ∀ {ks : List CS} {l : List SV}, HasKL ks l → l.length = ks.length
  | [], l, h => by simp only [HasKL] at h; subst h; rfl
  | k :: ks, l, h => by
    simp only [HasKL] at h
    obtain ⟨x, r, rfl, _, h⟩ := h
    simp [HasKL_length h]
theorem HasKL_append : ∀ {ks ks' : List CS} {l l' : List SV}, HasKL ks l → HasKL ks' l' → HasKL (ks ++ ks') (l ++ l')
  | [], ks', l, l', h, h' => by simp only [HasKL] at h; subst h; exact h'
  | k :: ks, ks', l, l', h, h' => by
    simp only [HasKL] at h
    obtain ⟨x, r, rfl, hx, h⟩ := h
    simp only [List.cons_append, HasKL]
    exact ⟨x, _, rfl, hx, HasKL_append h h'⟩
theorem RelL_append {ro : RO} {own : Own} : ∀ {l l' : List SV} {v v' : List Value}, RelL ro own l v → RelL ro own l' v' → RelL ro own (l ++ l') (v ++ v')
  | [], l', [], v', _, h' => h'
  | x :: r, l', y :: s, v', h, h' => ⟨h.1, RelL_append h.2 h'⟩
  | [], _, _ :: _, _, h, _ => h.elim
  | _ :: _, _, [], _, h, _ => h.elim
/-- The memory as it lies, read. -/
def roOf (W : World) : RO := fun b o => W.cell? ⟨b, o, none⟩
theorem mapM_some {α β : Type} {f : α → Option β} : ∀ {l : List α} {r : List β}, l.mapM f = some r → ∀ a ∈ l, ∃ b, f a = some b
  | [], _, _, a, h => by cases h
  | x :: l, r, h, a, ha => by
    simp only [List.mapM_cons, Option.bind_eq_bind, Option.bind_eq_some_iff] at h
    obtain ⟨b, hb, c, hc, _⟩ := h
    simp only [List.mem_cons] at ha
    rcases ha with rfl | ha
    · exact ⟨b, hb⟩
    · exact mapM_some hc a ha
theorem cells_get {W : World} {base n : Nat} {a : Addr} {l : List Value} (h : W.cells? base a n = some l) : l.length = n ∧ ∀ j v, l[j]? = some v → W.cell? (a.add j) = some v := by
  unfold World.cells? at h
  split at h
  case isFalse => cases h
  have key : ∀ (m k : Nat) (l : List Value), (List.range' k m).mapM (fun i => W.cell? (a.add i)) = some l → l.length = m ∧ ∀ j v, l[j]? = some v → W.cell? (a.add (k + j)) = some v := by
    intro m
    induction m with
    | zero => intro k l h; simp at h; subst h; simp
    | succ m ih =>
      intro k l h
      rw [List.range'_succ] at h
      simp only [List.mapM_cons, Option.bind_eq_bind, Option.bind_eq_some_iff, Option.pure_def, Option.some.injEq] at h
      obtain ⟨b, hb, c, hc, rfl⟩ := h
      obtain ⟨h1, h2⟩ := ih _ _ hc
      refine ⟨by simp [h1], fun j v hj => ?_⟩
      cases j with
      | zero => simp at hj; subst hj; exact hb
      | succ j => simp at hj; have := h2 j v hj; rwa [show k + 1 + j = k + (j + 1) by omega] at this
  rw [List.range_eq_range'] at h
  obtain ⟨h1, h2⟩ := key _ _ _ h
  exact ⟨h1, fun j v hj => by simpa using h2 j v hj⟩
theorem RelL_of_at {ro : RO} {own : Own} : ∀ {l : List SV} {v : List Value}, l.length = v.length → (∀ (i : Nat) (sv : SV) (u : Value), l[i]? = some sv → v[i]? = some u → Rel ro own sv u) → RelL ro own l v
  | [], [], _, _ => trivial
  | x :: r, y :: s, hl, h => ⟨h 0 x y rfl rfl, RelL_of_at (by simpa using hl) fun i sv u h1 h2 => h (i + 1) sv u (by simpa using h1) (by simpa using h2)⟩
  | [], _ :: _, hl, _ => by simp at hl
  | _ :: _, [], hl, _ => by simp at hl
section
variable {H : Type} {enc : TypeId × Value → H} {P : Program} {W : World}
theorem open_fields {z : TypeId → Option (List CS)} {tr : TypeId → List Value → Option (DataW H × List MemPlace)} {cs : List Value} (ih : ∀ t c x ks, tr t c = some x → z t = some ks → ∃ svs, HasKL ks svs ∧ RelL (roOf W) Own.empty svs c) :
    ∀ (fs : List Field) (off : Nat) (r : List (DataW H × List MemPlace)) (ks : List CS), fs.mapM (fun f => tr f.type ((cs.drop f.offset).take (P.cellsOf f.type))) = some r → fieldsK z P off fs = some ks → off + ks.length = cs.length → ∃ svs, HasKL ks svs ∧ RelL (roOf W) Own.empty svs (cs.drop off)
  | [], off, r, ks, _, hk, hl => by
    simp [fieldsK] at hk; subst hk
    refine ⟨[], rfl, ?_⟩
    simp at hl
    rw [List.drop_eq_nil_of_le (by omega)]; trivial
  | f :: fs, off, r, ks, h, hk, hl => by
    simp only [List.mapM_cons, Option.bind_eq_bind, Option.bind_eq_some_iff] at h
    obtain ⟨b, hb, c, hc, _⟩ := h
    simp only [fieldsK] at hk
    split at hk
    case h_2 => cases hk
    rename_i l hz
    split at hk
    case isFalse => cases hk
    rename_i ho
    obtain ⟨ho, hn⟩ := ho
    simp only [Option.map_eq_some_iff] at hk
    obtain ⟨ks', hk', rfl⟩ := hk
    obtain ⟨s1, h1, h2⟩ := ih _ _ _ _ hb hz
    simp at hl
    obtain ⟨s2, h3, h4⟩ := open_fields ih fs (off + l.length) c ks' hc hk' (by omega)
    refine ⟨s1 ++ s2, HasKL_append h1 h3, ?_⟩
    have e : cs.drop off = (cs.drop off).take l.length ++ cs.drop (off + l.length) := by
      rw [← List.drop_drop, List.take_append_drop]
    rw [e]
    rw [ho, ← hn] at h2
    exact RelL_append h2 h4
theorem open_array {tr : List Value → Option (DataW H × List MemPlace)} {cs : List Value} {ks : List CS} (ih : ∀ c x, tr c = some x → ∃ svs, HasKL ks svs ∧ RelL (roOf W) Own.empty svs c) :
    ∀ (n k : Nat) (r : List (DataW H × List MemPlace)), (List.range' k n).mapM (fun i => tr ((cs.drop (i * ks.length)).take ks.length)) = some r → (k + n) * ks.length = cs.length → ∃ svs, HasKL (List.replicate n ks).flatten svs ∧ RelL (roOf W) Own.empty svs (cs.drop (k * ks.length))
  | 0, k, r, _, hl => by
    refine ⟨[], by simp [HasKL], ?_⟩
    rw [List.drop_eq_nil_of_le (by simp at hl; omega)]; trivial
  | n + 1, k, r, h, hl => by
    rw [List.range'_succ] at h
    simp only [List.mapM_cons, Option.bind_eq_bind, Option.bind_eq_some_iff] at h
    obtain ⟨b, hb, c, hc, _⟩ := h
    obtain ⟨s1, h1, h2⟩ := ih _ _ hb
    obtain ⟨s2, h3, h4⟩ := open_array ih n (k + 1) c hc (by rw [← hl]; congr 1; omega)
    refine ⟨s1 ++ s2, by rw [List.replicate_succ, List.flatten_cons]; exact HasKL_append h1 h3, ?_⟩
    have e : cs.drop (k * ks.length) = (cs.drop (k * ks.length)).take ks.length ++ cs.drop ((k + 1) * ks.length) := by
      rw [Nat.add_mul, Nat.one_mul, ← List.drop_drop, List.take_append_drop]
    rw [e]
    exact RelL_append h2 h4
theorem trod_int {fuel : Nat} {t : TypeId} {k : IntKind} {cs : List Value} {x : DataW H × List MemPlace} (hu : P.underlying t = some (.int k)) (h : DataW.trod enc P W 0 (fun _ => true) true (fuel + 1) t cs = some x) : ∃ n, cs = [.int k n] ∧ (Lit.int k n).wf = true := by
  unfold DataW.trod at h
  split at h <;> first | (exfalso; simp_all; done) | skip
  rename_i k1 k2 n e
  rw [hu] at e; cases e
  split at h
  case isFalse => cases h
  rename_i hk
  obtain ⟨rfl, hw⟩ := hk
  exact ⟨n, rfl, hw⟩
theorem trod_bool {fuel : Nat} {t : TypeId} {cs : List Value} {x : DataW H × List MemPlace} (hu : P.underlying t = some .bool) (h : DataW.trod enc P W 0 (fun _ => true) true (fuel + 1) t cs = some x) : ∃ n, cs = [.bool n] := by
  unfold DataW.trod at h
  split at h <;> first | (exfalso; simp_all; done) | skip
  exact ⟨_, rfl⟩
theorem trod_str {fuel : Nat} {t : TypeId} {cs : List Value} {x : DataW H × List MemPlace} (hu : P.underlying t = some .string) (h : DataW.trod enc P W 0 (fun _ => true) true (fuel + 1) t cs = some x) : ∃ n : ByteArray, cs = [.string n] ∧ n.size ≤ maxLen := by
  unfold DataW.trod at h
  split at h <;> first | (exfalso; simp_all; done) | skip
  split at h
  case isFalse => cases h
  exact ⟨_, rfl, ‹_›⟩
theorem trod_sl {fuel : Nat} {t e : TypeId} {cs : List Value} {x : DataW H × List MemPlace} (hu : P.underlying t = some (.slice e)) (h : DataW.trod enc P W 0 (fun _ => true) true (fuel + 1) t cs = some x) :
    cs = [.slice none 0 0] ∨ ∃ a len cap, cs = [.slice (some a) len cap] ∧ len ≤ cap ∧ cap ≤ maxLen ∧ ∀ i, i < len → ∃ l y, W.cells? 0 (a.add (i * P.cellsOf e)) (P.cellsOf e) = some l ∧ DataW.trod enc P W 0 (fun _ => true) true fuel e l = some y := by
  unfold DataW.trod at h
  split at h <;> first | (exfalso; simp_all; done) | skip
  · exact .inl rfl
  · rename_i e' a len cap he
    rw [hu] at he; cases he
    split at h
    case isFalse => cases h
    rename_i hc
    simp only [Option.bind_eq_some_iff] at h
    obtain ⟨elems, hel, _⟩ := h
    refine .inr ⟨a, len, cap, rfl, hc.2.1, hc.2.2, fun i hi => ?_⟩
    obtain ⟨b, hb⟩ := mapM_some hel i (by simpa using hi)
    simp only [Option.bind_eq_some_iff] at hb
    obtain ⟨l, hl, hb⟩ := hb
    exact ⟨l, b, hl, hb⟩
theorem trod_struct {fuel : Nat} {t : TypeId} {fs : Array Field} {cs : List Value} {x : DataW H × List MemPlace} (hu : P.underlying t = some (.struct fs)) (h : DataW.trod enc P W 0 (fun _ => true) true (fuel + 1) t cs = some x) :
    cs.length = P.cellsOf t ∧ ∃ r, fs.toList.mapM (fun f => DataW.trod enc P W 0 (fun _ => true) true fuel f.type ((cs.drop f.offset).take (P.cellsOf f.type))) = some r := by
  unfold DataW.trod at h
  split at h <;> first | (exfalso; simp_all; done) | skip
  rename_i e
  rw [hu] at e; cases e
  split at h
  case isFalse => cases h
  rename_i hl
  simp only [Option.map_eq_some_iff] at h
  obtain ⟨r, hr, _⟩ := h
  exact ⟨hl, r, hr⟩
theorem trod_array {fuel : Nat} {t e : TypeId} {n : Nat} {cs : List Value} {x : DataW H × List MemPlace} (hu : P.underlying t = some (.array n e)) (h : DataW.trod enc P W 0 (fun _ => true) true (fuel + 1) t cs = some x) :
    cs.length = P.cellsOf t ∧ ∃ r, (List.range n).mapM (fun i => DataW.trod enc P W 0 (fun _ => true) true fuel e ((cs.drop (i * P.cellsOf e)).take (P.cellsOf e))) = some r := by
  unfold DataW.trod at h
  split at h <;> first | (exfalso; simp_all; done) | skip
  rename_i e
  rw [hu] at e; cases e
  split at h
  case isFalse => cases h
  rename_i hl
  simp only [Option.map_eq_some_iff] at h
  obtain ⟨r, hr, _⟩ := h
  exact ⟨hl, r, hr⟩
/-- What is read as data is a symbolic value. -/
theorem open_cells : ∀ (fuel d : Nat) (t : TypeId) (cs : List Value) (x : DataW H × List MemPlace) (ks : List CS), DataW.trod enc P W 0 (fun _ => true) true fuel t cs = some x → shapeOf P d t = some ks → ∃ svs, HasKL ks svs ∧ RelL (roOf W) Own.empty svs cs := by
  intro fuel
  induction fuel with
  | zero => intro d t cs x ks h; simp [DataW.trod] at h
  | succ fuel ih =>
    intro d t cs x ks h hs
    cases d with
    | zero => simp [shapeOf] at hs
    | succ d =>
    simp only [shapeOf] at hs
    split at hs
    · rename_i k hu
      cases hs
      obtain ⟨n, rfl, hw⟩ := trod_int hu h
      exact ⟨[.int _ _], by simp only [HasKL, HasK]; exact ⟨_, _, rfl, ⟨_, rfl, hw⟩, rfl⟩, .int _ _ _, trivial⟩
    · rename_i hu
      cases hs
      obtain ⟨n, rfl⟩ := trod_bool hu h
      exact ⟨[.bool _], by simp only [HasKL, HasK]; exact ⟨_, _, rfl, ⟨_, rfl⟩, rfl⟩, .bool _ _, trivial⟩
    · rename_i hu
      cases hs
      obtain ⟨s, rfl, hk⟩ := trod_str hu h
      refine ⟨[.str s.data.toList], by simp only [HasKL, HasK]; exact ⟨_, _, rfl, ⟨_, rfl, by simpa using hk⟩, rfl⟩, ?_, trivial⟩
      have := Rel.str (ro := roOf W) Own.empty s.data.toList
      simpa using this
    · rename_i e hu
      split at hs
      case h_2 => cases hs
      rename_i ks' hks
      split at hs
      case isFalse => cases hs
      rename_i hlen
      obtain ⟨hlen, hes⟩ := hlen
      cases hs
      rcases trod_sl hu h with rfl | ⟨a, len, cap, rfl, hlc, hcm, hE0⟩
      · exact ⟨[.ros ks'.length 0 fun _ => []], by simp only [HasKL, HasK]; exact ⟨_, _, rfl, ⟨_, _, rfl, Nat.zero_le _, fun i hi => by omega⟩, rfl⟩, .ros0 _ _ _ _ _ _ rfl, trivial⟩
      · have hE : ∀ i, i < len → ∃ l svs, W.cells? 0 (a.add (i * P.cellsOf e)) (P.cellsOf e) = some l ∧ HasKL ks' svs ∧ RelL (roOf W) Own.empty svs l := by
          intro i hi
          obtain ⟨l, y, hl, hb⟩ := hE0 i hi
          obtain ⟨svs, h1, h2⟩ := ih _ _ _ _ _ hb hks
          exact ⟨l, svs, hl, h1, h2⟩
        by_cases hz : len = 0
        · subst hz
          exact ⟨[.ros ks'.length 0 fun _ => []], by simp only [HasKL, HasK]; exact ⟨_, _, rfl, ⟨_, _, rfl, Nat.zero_le _, fun i hi => by omega⟩, rfl⟩, .ros0 _ _ _ _ _ _ rfl, trivial⟩
        · have hpos : 0 < len ∧ 0 < ks'.length := ⟨by omega, hes⟩
          obtain ⟨b, off, spot⟩ := a
          have hspot : spot = none := by
            obtain ⟨l, svs, hl, h1, _⟩ := hE 0 hpos.1
            obtain ⟨e1, e2⟩ := cells_get hl
            have := e2 0 _ (List.getElem?_eq_getElem (by rw [e1, ← hlen]; exact hpos.2))
            simpa [Addr.add] using World.cell?_spot this
          subst hspot
          have hch : ∀ i, ∃ svs, i < len → ∃ l, W.cells? 0 ((⟨b, off, none⟩ : Addr).add (i * P.cellsOf e)) (P.cellsOf e) = some l ∧ HasKL ks' svs ∧ RelL (roOf W) Own.empty svs l := fun i => by
            by_cases hi : i < len
            · obtain ⟨l, svs, h1, h2, h3⟩ := hE i hi
              exact ⟨svs, fun _ => ⟨l, h1, h2, h3⟩⟩
            · exact ⟨[], fun h => absurd h hi⟩
          obtain ⟨f, hf⟩ := Classical.axiomOfChoice hch
          refine ⟨[.ros ks'.length len f], by simp only [HasKL, HasK]; exact ⟨_, _, rfl, ⟨_, _, rfl, by omega, fun i hi => by obtain ⟨l, _, h2, _⟩ := hf i hi; exact h2⟩, rfl⟩, ?_, trivial⟩
          have cellat : ∀ i j, i < len → j < ks'.length → ∃ v sv, W.cell? ⟨b, off + (i * ks'.length + j), none⟩ = some v ∧ (f i)[j]? = some sv ∧ Rel (roOf W) Own.empty sv v := by
            intro i j hi hj
            obtain ⟨l, h1, h2, h3⟩ := hf i hi
            obtain ⟨e1, e2⟩ := cells_get h1
            have hj2 : j < (f i).length := by rw [HasKL_length h2]; exact hj
            obtain ⟨v, hv, hr⟩ := h3.at j _ (List.getElem?_eq_getElem hj2)
            refine ⟨v, _, ?_, List.getElem?_eq_getElem hj2, hr⟩
            have := e2 j v hv
            rw [← hlen, add_none, add_none, Nat.add_assoc] at this
            exact this
          refine .ros _ _ _ _ b off cap (fun k => (W.cell? ⟨b, off + k, none⟩).getD undef) hlc (fun i hi => by obtain ⟨l, _, h2, _⟩ := hf i hi; exact HasKL_length h2) (fun k hk => ?_) (fun i j sv hi hj => ?_)
          · have h1 : k / ks'.length < len := by rw [Nat.div_lt_iff_lt_mul hpos.2]; exact hk
            obtain ⟨v, sv, hv, _⟩ := cellat (k / ks'.length) (k % ks'.length) h1 (Nat.mod_lt _ hpos.2)
            rw [Nat.mul_comm, Nat.div_add_mod] at hv
            simp [roOf, hv]
          · have hj2 : j < ks'.length := by
              obtain ⟨l, _, h2, _⟩ := hf i hi
              rw [← HasKL_length h2]; exact (List.getElem?_eq_some_iff.1 hj).1
            obtain ⟨v, sv', hv, hs', hr⟩ := cellat i j hi hj2
            rw [hs'] at hj; cases hj
            simp [hv, hr]
    · rename_i fs hu
      split at hs
      case h_2 => cases hs
      rename_i ks' hks
      split at hs
      case isFalse => cases hs
      rename_i hlen
      cases hs
      obtain ⟨h1, r, h2⟩ := trod_struct hu h
      have := open_fields (W := W) (fun t c x ks h1 h2 => ih d t c x ks h1 h2) fs.toList 0 r _ h2 hks (by omega)
      simpa using this
    · rename_i n e hu
      split at hs
      case h_2 => cases hs
      rename_i ks' hks
      split at hs
      case isFalse => cases hs
      rename_i hlen
      cases hs
      obtain ⟨h1, r, h2⟩ := trod_array hu h
      rw [← hlen.1, List.range_eq_range'] at h2
      have := open_array (W := W) (fun c x h => ih d e c x ks' h hks) n 0 r h2 (by rw [h1, ← hlen.2]; simp)
      simpa using this
    · cases hs
def argSV (agg : Bool) (l : List SV) : SV := match agg with
  | true => .agg (l.map .s)
  | false => l.headD .any
/-- These are arguments of these types. -/
def HasArgs (P : Program) : List TypeId → List SV → Prop
  | [], xs => xs = []
  | t :: ts, xs => ∃ ks agg svs r, shapeOf P 9 t = some ks ∧ isAggT P t = some agg ∧ HasKL ks svs ∧ xs = argSV agg svs :: r ∧ HasArgs P ts r
theorem open_arg {t : TypeId} {v : Value} {d : DataW H} {ps : List MemPlace} {base : Nat} {ks : List CS} {agg : Bool} (hval : Value.okWide P W .any base t v) (hd : DataW.Trod enc P W 0 (fun _ => true) true t v d ps) (hs : shapeOf P 9 t = some ks) (ha : isAggT P t = some agg) :
    ∃ svs, HasKL ks svs ∧ Rel (roOf W) Own.empty (argSV agg svs) v := by
  obtain ⟨fuel, hf⟩ := hd
  obtain ⟨svs, h1, h2⟩ := open_cells fuel 9 t _ _ ks hf hs
  refine ⟨svs, h1, ?_⟩
  have hlen := h2.length
  unfold isAggT at ha
  unfold Value.okWide at hval
  cases agg with
  | true =>
    have : ∃ cs, v = .agg cs := by
      split at ha
      · rename_i hu; rw [hu] at hval; obtain ⟨cs, h, _⟩ := hval; exact ⟨cs, h⟩
      · rename_i hu; rw [hu] at hval; obtain ⟨cs, h, _⟩ := hval; exact ⟨cs, h⟩
      · cases ha
      · cases ha
    obtain ⟨cs, rfl⟩ := this
    simp only [Value.cells] at h2 hlen
    refine .agg _ _ _ (by rw [segsSize_map_s, hlen]; simp) fun k sv hk => ?_
    rw [flat_map_s] at hk
    obtain ⟨u, hu, hr⟩ := h2.at k sv hk
    simp only [Array.getElem?_toList] at hu
    simpa [hu] using hr
  | false =>
    have hna : ∀ cs, v ≠ .agg cs := by
      rintro cs rfl
      split at ha
      · cases ha
      · cases ha
      · rename_i n1 n2 hu
        simp only [hu] at hval
        unfold shapeOf at hs
        rw [hu] at hs
        unfold Cell.okWide at hval
        split at hs <;> simp_all [Cell.ok]
      · cases ha
    have hc : v.cells.toList = [v] := by
      unfold Value.cells
      split
      · exact absurd rfl (hna _)
      · rfl
    rw [hc] at h2 hlen
    match svs, h2 with
    | [x], h2 => exact h2.1
theorem open_args {base : Nat} : ∀ {ts : List TypeId} {vs : List Value} {ds : List (DataW H)} {ps : List MemPlace}, DataW.TrodAll enc P W 0 (fun _ => true) true ts vs ds ps → (∀ (j : Nat) t v, ts[j]? = some t → vs[j]? = some v → Value.okWide P W .any base t v) →
    (ts.all fun t => (shapeOf P 9 t).isSome && (isAggT P t).isSome) = true → ∃ xs, HasArgs P ts xs ∧ RelL (roOf W) Own.empty xs vs
  | [], vs, ds, ps, h, _, _ => by
    obtain ⟨rfl, _, _⟩ := trodAll_nil h
    exact ⟨[], rfl, trivial⟩
  | t :: ts, vs, ds, ps, h, hv, ht => by
    obtain ⟨v, vs', d, ds', p, q, rfl, rfl, rfl, h1, h2⟩ := trodAll_cons h
    simp only [List.all_cons, Bool.and_eq_true, Option.isSome_iff_exists] at ht
    obtain ⟨⟨⟨ks, hk⟩, ⟨agg, ha⟩⟩, ht⟩ := ht
    obtain ⟨svs, g1, g2⟩ := open_arg (hv 0 t v rfl rfl) h1 hk ha
    obtain ⟨xs, g3, g4⟩ := open_args h2 (fun j t v h1 h2 => hv (j + 1) t v (by simpa using h1) (by simpa using h2)) ht
    exact ⟨_, ⟨ks, agg, svs, xs, hk, ha, g1, rfl, g3⟩, g2, g4⟩
/-- The arguments read behind the call as they did. -/
theorem shut_args (hl : laidOutB P = true) {W W' : World} (bel : Below W.heap.size W W') : ∀ {ts : List TypeId} {vs : List Value} {ds : List (DataW H)} {ps : List MemPlace}, DataW.TrodAll enc P W 0 (fun _ => true) true ts vs ds ps →
    (ts.all fun t => P.readableRec t && decide (t < P.types.size)) = true → DataW.TrodAll enc P W' 0 (fun b => decide (b < W.heap.size)) true ts vs ds ps
  | [], vs, ds, ps, h, _ => by
    obtain ⟨rfl, rfl, rfl⟩ := trodAll_nil h
    exact rfl
  | t :: ts, vs, ds, ps, h, ht => by
    obtain ⟨v, vs', d, ds', p, q, rfl, rfl, rfl, h1, h2⟩ := trodAll_cons h
    simp only [List.all_cons, Bool.and_eq_true, decide_eq_true_eq] at ht
    refine trodAll_cons_mk (Below.trod hl ht.1.1 ht.1.2 h1 bel ?_) (shut_args hl bel h2 ht.2)
    obtain ⟨m, hm⟩ := h1
    exact DataW.trod_lt m _ _ _ hm
end
/-- A law's statement, from her walk: she answers true whatever her arguments. -/
theorem law_lifted {C : Checked} {os : Os} (started : os.Started) {H : Type} {enc : TypeId × Value → H} {f : FuncId} {fn : Func} {s : ChangeSpec} {tb : TypeId} (own : ownKnob C.prog.godebug = none) (hl : laidOutB C.prog = true) (noInit : C.prog.inits.idxOf? f = none) (hfn : C.prog.funcs[f]? = some fn)
    (hvars : s.vars = []) (hres : fn.resultTypes = #[tb]) (hb : C.prog.underlying tb = some .bool)
    (hspec : ∀ ds : List (DataW H), ds.length = fn.params.toList.length → s.fn H ds = { results := [.lit (.bool true)], args := ds })
    (hts : (fn.params.toList.all fun t => (shapeOf C.prog 9 t).isSome && (isAggT C.prog t).isSome) = true) (hts2 : (fn.params.toList.all fun t => C.prog.readableRec t && decide (t < C.prog.types.size)) = true)
    (witness : ∃ (w : World) (tape : Tape) (i : Input), w.os = os ∧ (w.forCall tape i).Shaped C.prog ∧ i.vars = [] ∧ Input.okWide C.prog (w.forCall tape i) .any w.heap.size f i ∧
      s.pre6 enc C.prog fn [] false (w.forCall tape i).memory i.args ∧ ({} : Assume).holds C.prog (lone (Frame.enter C.prog f i.args .normal) [] (w.forCall tape i)))
    (hcall : ∀ (W : World) (xs : List SV) (args : Array Value), HasArgs C.prog fn.params.toList xs → RelL (roOf W) Own.empty xs args.toList → Calls C.prog f args W fun e W' => ∃ v R', e = .returned v ∧ Rel R' Own.empty .tt v ∧ ROle (roOf W) R' ∧ (∀ b o v, R' b o = some v → W'.cell? ⟨b, o, none⟩ = some v) ∧ (∀ b o, b < W.heap.size → R' b o = (roOf W) b o) ∧ Below W.heap.size W W') :
    ReturnsInHanded {} C os f .any (s.pre6 enc C.prog fn [] false) (s.post enc C.prog fn false true false false) := by
  refine returnsInHanded_of_change (C := C) own started noInit hfn witness ?_
  intro W base args ds gs before hval hW _ _
  have hW' := hW
  obtain ⟨p, q, hA, hV, rfl, _, _⟩ := hW
  rw [hvars] at hV
  obtain ⟨rfl, rfl⟩ := trodVars_none hV
  have hlen : ds.length = fn.params.toList.length := by
    have : ∀ {ts : List TypeId} {vs : List Value} {ds : List (DataW H)} {ps : List MemPlace}, DataW.TrodAll enc C.prog W 0 (fun _ => true) true ts vs ds ps → ds.length = ts.length := by
      intro ts
      induction ts with
      | nil => intro vs ds ps h; obtain ⟨_, rfl, _⟩ := trodAll_nil h; rfl
      | cons t ts ih =>
        intro vs ds ps h
        obtain ⟨v, vs', d, ds', p, q, rfl, rfl, rfl, h1, h2⟩ := trodAll_cons h
        simp [ih h2]
    exact this hA
  obtain ⟨xs, h1, h2⟩ := open_args hA (fun j t v ht hv => hval j t v (by simpa using ht) (by simpa using hv)) hts
  refine (hcall W xs args h1 h2).mono fun e W' ⟨v, R', he, hr, _, _, _, bel⟩ => ?_
  subst he
  have hv : v = .bool true := by cases hr; rfl
  subst hv
  refine ⟨_, rfl, ds, [], _, [], p, [], hW', ?_, ?_, ?_, bel.frame _, fun h => by cases h⟩
  · rw [List.append_nil, hspec ds hlen, hres]
    exact trodAll_mk1 (shut_bool hb _)
  · rw [List.append_nil, hspec ds hlen]
    exact shut_args hl bel hA hts2
  · rw [hvars, List.append_nil, hspec ds hlen]
    exact rfl
end Go.Sx
