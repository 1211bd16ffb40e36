/-
  Symbolic values, their relation to the model's values, and states of a call by locations. A small separation of what a call owns (blocks that it made) from what it only reads. General: no program in sight.
-/
import Derived.WalkKit
import Derived.Below
namespace Go.Sx
set_option linter.unusedVariables false
set_option linter.unusedSimpArgs false
open Go Go.RowKit

/-- A test that is decided, ahead of a claim. -/
def andB (b : Bool) (p : Prop) : Prop := match b with
  | true => p
  | false => False
theorem andB_iff {b : Bool} {p : Prop} : andB b p ↔ b = true ∧ p := by cases b <;> simp [andB]
mutual
/-- Symbolic values. 'any': nothing is known. 'ptr id q': the beginning of segment q of the call's own block id. 'pel': cell j of element i of an array segment. 'sl': a slice in an own row. 'ros': a slice that is only read, with its contents. 'rop': a pointer to cell j of element i of such a row. 'opq': whatever fills one cell. -/
inductive SV : Type
  | any
  | bool (b : Bool)
  | tt
  | ff
  | int (k : IntKind) (n : Int)
  | str (s : List UInt8)
  | nils
  | agg (l : List Seg)
  | tup (l : List SV)
  | ptr (id q : Nat)
  | pel (id ver q i j : Nat)
  | sl (id ver off len : Nat)
  | ros (es len : Nat) (f : Nat → List SV)
  | rop (es len : Nat) (f : Nat → List SV) (i j : Nat)
  | fn (f : Nat) (a b : List SV)
  | opq
/-- A segment of a block or of an aggregate: one cell, or n elements of es cells. -/
inductive Seg : Type
  | s (v : SV)
  | a (n es : Nat) (f : Nat → List SV)
end

instance : Inhabited SV := ⟨.any⟩
instance : Inhabited Seg := ⟨.s .any⟩

def Seg.size : Seg → Nat
  | .s _ => 1
  | .a n es _ => n * es
def Seg.es : Seg → Nat
  | .s _ => 1
  | .a _ es _ => es
def Seg.at : Seg → Nat → Option SV
  | .s v, 0 => some v
  | .s _, _ + 1 => none
  | .a n es f, k => if k < n * es then (f (k / es))[k % es]? else none
def segsSize : List Seg → Nat
  | [] => 0
  | x :: r => x.size + segsSize r
/-- What lies at cell k. -/
def flat : List Seg → Nat → Option SV
  | [], _ => none
  | x :: r, k => if k < x.size then x.at k else flat r (k - x.size)

/-- What the call owns: the block of each version of each name ('some none': a nil slice), the row's capacity, where each segment begins, and how many cells an element has. -/
structure Own where
  env : Nat → Nat → Option (Option Nat)
  cap : Nat → Nat → Nat
  st : Nat → Nat → Nat
  es : Nat → Nat → Nat
def Own.empty : Own := ⟨fun _ _ => none, fun _ _ => 0, fun _ _ => 0, fun _ _ => 0⟩
abbrev RO := Nat → Nat → Option Value

inductive Rel (ro : RO) : Own → SV → Value → Prop
  | any (o : Own) (v : Value) : Rel ro o .any v
  | bool (o : Own) (b : Bool) : Rel ro o (.bool b) (.bool b)
  | tt (o : Own) : Rel ro o .tt (.bool true)
  | ff (o : Own) : Rel ro o .ff (.bool false)
  | int (o : Own) (k : IntKind) (n : Int) : Rel ro o (.int k n) (.int k n)
  | str (o : Own) (s : List UInt8) : Rel ro o (.str s) (.string ⟨s.toArray⟩)
  | nils (o : Own) : Rel ro o .nils (.slice none 0 0)
  | agg (o : Own) (l : List Seg) (cs : Array Value) (hs : cs.size = segsSize l) (h : ∀ k sv, flat l k = some sv → Rel ro o sv (cs.getD k undef)) : Rel ro o (.agg l) (.agg cs)
  | tup (o : Own) (l : List SV) (vs : Array Value) (hs : vs.size = l.length) (h : ∀ i sv, l[i]? = some sv → Rel ro o sv (vs.getD i undef)) : Rel ro o (.tup l) (.tuple vs)
  | ptr (o : Own) (id q b : Nat) (h : o.env id 0 = some (some b)) : Rel ro o (.ptr id q) (.pointer (some ⟨b, o.st id q, none⟩))
  | pel (o : Own) (id ver q i j b : Nat) (h : o.env id ver = some (some b)) : Rel ro o (.pel id ver q i j) (.pointer (some ⟨b, o.st id q + i * o.es id q + j, none⟩))
  | sl (o : Own) (id ver off len b : Nat) (h : o.env id ver = some (some b)) (hc : off + len ≤ o.cap id ver) : Rel ro o (.sl id ver off len) (.slice (some ⟨b, off * o.es id 0, none⟩) len (o.cap id ver - off))
  | sln (o : Own) (id ver off len : Nat) (h : o.env id ver = some none) (hl : len = 0) (ho : off = 0) : Rel ro o (.sl id ver off len) (.slice none 0 0)
  | ros0 (o : Own) (es len : Nat) (f : Nat → List SV) (a : Option Addr) (cap : Nat) (h : len = 0) : Rel ro o (.ros es len f) (.slice a 0 cap)
  | ros (o : Own) (es len : Nat) (f : Nat → List SV) (b k0 cap : Nat) (vs : Nat → Value) (hc : len ≤ cap) (hl : ∀ i, i < len → (f i).length = es) (hm : ∀ k, k < len * es → ro b (k0 + k) = some (vs k))
      (h : ∀ i j sv, i < len → (f i)[j]? = some sv → Rel ro Own.empty sv (vs (i * es + j))) : Rel ro o (.ros es len f) (.slice (some ⟨b, k0, none⟩) len cap)
  | rop (o : Own) (es len : Nat) (f : Nat → List SV) (i j b k0 : Nat) (vs : Nat → Value) (hl : ∀ i, i < len → (f i).length = es) (hm : ∀ k, k < len * es → ro b (k0 + k) = some (vs k))
      (h : ∀ i j sv, i < len → (f i)[j]? = some sv → Rel ro Own.empty sv (vs (i * es + j))) (hi : i < len) : Rel ro o (.rop es len f i j) (.pointer (some ⟨b, k0 + i * es + j, none⟩))
  | fn (o : Own) (f : Nat) (a b : List SV) (va vb : Array Value) (ha : va.size = a.length) (hb : vb.size = b.length) (h1 : ∀ i sv, a[i]? = some sv → Rel ro o sv (va.getD i undef)) (h2 : ∀ i sv, b[i]? = some sv → Rel ro o sv (vb.getD i undef)) :
      Rel ro o (.fn f a b) (.func (.func f) va vb)
  | opq (o : Own) (v : Value) (h : v.oneCell' = true) : Rel ro o .opq v

def ROle (r r' : RO) : Prop := ∀ b o v, r b o = some v → r' b o = some v
theorem ROle.refl (r : RO) : ROle r r := fun _ _ _ h => h
theorem ROle.trans {a b c : RO} (h : ROle a b) (k : ROle b c) : ROle a c := fun x y v e => k x y v (h x y v e)
structure Own.le (o o' : Own) : Prop where
  env : ∀ id ver x, o.env id ver = some x → o'.env id ver = some x
  cap : ∀ id ver x, o.env id ver = some x → o'.cap id ver = o.cap id ver
  st : ∀ id ver x q, o.env id ver = some x → o'.st id q = o.st id q
  es : ∀ id ver x q, o.env id ver = some x → o'.es id q = o.es id q
theorem Own.le.refl (o : Own) : o.le o := ⟨fun _ _ _ h => h, fun _ _ _ _ => rfl, fun _ _ _ _ _ => rfl, fun _ _ _ _ _ => rfl⟩
theorem Own.le.trans {a b c : Own} (h : a.le b) (k : b.le c) : a.le c :=
  ⟨fun i v x e => k.env i v x (h.env i v x e), fun i v x e => (k.cap i v x (h.env i v x e)).trans (h.cap i v x e), fun i v x q e => (k.st i v x q (h.env i v x e)).trans (h.st i v x q e), fun i v x q e => (k.es i v x q (h.env i v x e)).trans (h.es i v x q e)⟩
theorem Own.empty_le (o : Own) : Own.empty.le o := ⟨(fun _ _ _ h => by cases h), (fun _ _ _ h => by cases h), (fun _ _ _ _ h => by cases h), (fun _ _ _ _ h => by cases h)⟩

theorem Rel.mono {r r' : RO} {o : Own} {sv : SV} {v : Value} (h : Rel r o sv v) : ∀ {o' : Own}, ROle r r' → o.le o' → Rel r' o' sv v := by
  induction h with
  | any => intros; exact .any _ _
  | bool => intros; exact .bool _ _
  | tt => intros; exact .tt _
  | ff => intros; exact .ff _
  | int => intros; exact .int _ _ _
  | str => intros; exact .str _ _
  | nils => intros; exact .nils _
  | agg o l cs hs h ih => intro o' hr ho; exact .agg _ _ _ hs fun k sv e => ih k sv e hr ho
  | tup o l vs hs h ih => intro o' hr ho; exact .tup _ _ _ hs fun k sv e => ih k sv e hr ho
  | ptr o id q b h => intro o' hr ho; rw [← ho.st id 0 _ q h]; exact .ptr _ _ _ _ (ho.env _ _ _ h)
  | pel o id ver q i j b h => intro o' hr ho; rw [← ho.st id ver _ q h, ← ho.es id ver _ q h]; exact .pel _ _ _ _ _ _ _ (ho.env _ _ _ h)
  | sl o id ver off len b h hc => intro o' hr ho; rw [← ho.cap id ver _ h, ← ho.es id ver _ 0 h]; exact .sl _ _ _ _ _ _ (ho.env _ _ _ h) (by rw [ho.cap id ver _ h]; exact hc)
  | sln o id ver off len h hl h0 => intro o' hr ho; exact .sln _ _ _ _ _ (ho.env _ _ _ h) hl h0
  | ros0 o es len f a cap h => intros; exact .ros0 _ _ _ _ _ _ h
  | ros o es len f b k0 cap vs hc hl hm h ih => intro o' hr ho; exact .ros _ _ _ _ _ _ _ vs hc hl (fun k hk => hr _ _ _ (hm k hk)) fun i j sv hi e => ih i j sv hi e hr (.refl _)
  | rop o es len f i j b k0 vs hl hm h hi ih => intro o' hr ho; exact .rop _ _ _ _ _ _ _ _ vs hl (fun k hk => hr _ _ _ (hm k hk)) (fun i j sv hi e => ih i j sv hi e hr (.refl _)) hi
  | opq o v h => intros; exact .opq _ _ h
  | fn o f a b va vb ha hb h1 h2 ih1 ih2 => intro o' hr ho; exact .fn _ _ _ _ _ _ ha hb (fun i sv e => ih1 i sv e hr ho) (fun i sv e => ih2 i sv e hr ho)
theorem Rel.own {r : RO} {o o' : Own} {sv : SV} {v : Value} (h : Rel r o sv v) (ho : o.le o') : Rel r o' sv v := h.mono (.refl _) ho

/-! ### Segments -/
theorem flat_lt {l : List Seg} {k : Nat} {sv : SV} (h : flat l k = some sv) : k < segsSize l := by
  induction l generalizing k with
  | nil => cases h
  | cons x r ih =>
    simp only [flat] at h
    simp only [segsSize]
    split at h
    · omega
    · have := ih h; omega
theorem flat_append (l r : List Seg) (k : Nat) : flat (l ++ r) k = if k < segsSize l then flat l k else flat r (k - segsSize l) := by
  induction l generalizing k with
  | nil => simp [segsSize]
  | cons x l ih =>
    simp only [List.cons_append, flat, segsSize]
    by_cases h : k < x.size
    · simp [h]; omega
    · simp only [h, if_false, ih]
      by_cases h2 : k - x.size < segsSize l
      · rw [if_pos h2, if_pos (by omega)]
      · rw [if_neg h2, if_neg (by omega)]; congr 1; omega
theorem segsSize_append (l r : List Seg) : segsSize (l ++ r) = segsSize l + segsSize r := by
  induction l with
  | nil => simp [segsSize]
  | cons x l ih => simp only [List.cons_append, segsSize, ih]; omega
theorem flat_at {l : List Seg} {q : Nat} {x : Seg} (h : l[q]? = some x) (k : Nat) (hk : k < x.size) : flat l (segsSize (l.take q) + k) = x.at k := by
  induction l generalizing q with
  | nil => simp at h
  | cons y l ih =>
    cases q with
    | zero => simp at h; subst h; simp [flat, segsSize, hk]
    | succ q =>
      simp at h
      simp only [List.take_succ_cons, segsSize, flat]
      rw [if_neg (by omega), show y.size + segsSize (l.take q) + k - y.size = segsSize (l.take q) + k from by omega]
      exact ih h
theorem segs_split {l : List Seg} {q : Nat} {x : Seg} (h : l[q]? = some x) : l = l.take q ++ x :: l.drop (q + 1) := by
  obtain ⟨hq, rfl⟩ := List.getElem?_eq_some_iff.1 h
  rw [← List.drop_eq_getElem_cons hq, List.take_append_drop]
/-- A segment replaced by one of the same size: only its own cells turn. -/
theorem flat_set {l : List Seg} {q : Nat} {x y : Seg} (h : l[q]? = some x) (hs : y.size = x.size) (k : Nat) :
    flat (l.set q y) k = if segsSize (l.take q) ≤ k ∧ k < segsSize (l.take q) + x.size then y.at (k - segsSize (l.take q)) else flat l k := by
  have hq := (List.getElem?_eq_some_iff.1 h).1
  have e1 : l.set q y = l.take q ++ y :: l.drop (q + 1) := by
    rw [List.set_eq_take_append_cons_drop, if_pos hq]
  conv => rhs; rw [segs_split h]
  rw [e1, flat_append, flat_append]
  simp only [flat]
  have e2 : segsSize (List.take q (l.take q ++ x :: l.drop (q + 1))) = segsSize (l.take q) := by rw [← segs_split h]
  rw [e2]
  by_cases hk : k < segsSize (l.take q)
  · rw [if_pos hk, if_neg (by omega), if_pos hk]
  · by_cases h2 : k - segsSize (l.take q) < x.size
    · rw [if_neg hk, if_pos (by omega), if_pos (by omega)]
    · rw [if_neg hk, if_neg (by omega), if_neg (by omega), if_neg hk, if_neg h2, hs]
theorem segsSize_set {l : List Seg} {q : Nat} {x y : Seg} (h : l[q]? = some x) (hs : y.size = x.size) : segsSize (l.set q y) = segsSize l := by
  have hq := (List.getElem?_eq_some_iff.1 h).1
  conv => rhs; rw [segs_split h]
  rw [List.set_eq_take_append_cons_drop, if_pos hq]
  simp only [segsSize_append, segsSize, hs]
theorem seg_le {l : List Seg} {q : Nat} {x : Seg} (h : l[q]? = some x) : segsSize (l.take q) + x.size ≤ segsSize l := by
  conv => rhs; rw [segs_split h]
  simp only [segsSize_append, segsSize]; omega
theorem seg_a_at {n es : Nat} {f : Nat → List SV} {i j : Nat} (hi : i < n) (hj : j < es) : (Seg.a n es f).at (i * es + j) = (f i)[j]? := by
  have h1 : (i * es + j) / es = i := by
    rw [Nat.mul_comm, Nat.mul_add_div (by omega), Nat.div_eq_of_lt hj, Nat.add_zero]
  have h2 : (i * es + j) % es = j := by
    rw [Nat.mul_comm, Nat.mul_add_mod, Nat.mod_eq_of_lt hj]
  have h3 : i * es + j < n * es := by
    have : (i + 1) * es ≤ n * es := Nat.mul_le_mul_right _ hi
    rw [Nat.add_mul] at this; omega
  simp only [Seg.at, h3, if_true, h1, h2]

/-! ### States -/
/-- Of an own block: its version, whether it is only read from now on, whether it is a row (one array segment, which an append may turn), whether an append may write it, its segments' number, and (of a block that is no row) their shapes. -/
structure Mta where
  ver : Nat
  frz : Bool
  row : Bool
  app : Option TypeId
  ns : Nat
  es : Nat
  sh : List (Option (Nat × Nat))
def Seg.shape : Seg → Option (Nat × Nat)
  | .s _ => none
  | .a n es _ => some (n, es)
inductive Item
  | v (x : SV)
  | m (x : Option Mta)
  | s (x : Seg)
inductive Loc
  | tm (t : Nat)
  | mt (id : Nat)
  | sg (id q : Nat)
  deriving DecidableEq
abbrev St := Loc → Item
def St.seg (s : St) (id q : Nat) : Seg := match s (.sg id q) with | .s x => x | _ => .s .any
def St.segs (s : St) (id n : Nat) : List Seg := (List.range n).map (s.seg id)
def St.put (s : St) (l : Loc) (x : Item) : St := fun l' => if l' = l then x else s l'
def St.apply (s : St) : List (Loc × Item) → St
  | [] => s
  | (l, x) :: r => (s.put l x).apply r

/-- A block of the call's own that may be written. -/
structure Live (B : Nat) (ro : RO) (own : Own) (segs : List Seg) (w : World) (id : Nat) (m : Mta) (b : Nat) : Prop where
  low : B ≤ b
  apart : ∀ o, ro b o = none
  body : ∃ cs e lo hi, w.heap[b]? = some (.cells cs e (lo, hi)) ∧ (hi ≤ lo ∨ segsSize segs ≤ lo) ∧ (∀ t, m.app = some t → lo = 0 ∧ hi = 0 ∧ e = t ∧ own.cap id m.ver ≤ maxLen) ∧ segsSize segs ≤ cs.size ∧ (∀ k sv, flat segs k = some sv → Rel ro own sv (cs.getD k undef)) ∧
    (m.row = false → cs.size = segsSize segs) ∧ (m.row = true → cs.size = own.cap id m.ver * own.es id 0)
/-- A block of the call's own, as the state has it. -/
structure EntOK (B : Nat) (ro : RO) (own : Own) (segs : List Seg) (w : World) (id : Nat) (m : Mta) : Prop where
  st : ∀ q, q < m.ns → own.st id q = segsSize (segs.take q)
  es : ∀ q x, segs[q]? = some x → own.es id q = x.es
  row : m.row = true → ∃ n f, segs = [.a n m.es f] ∧ (∀ b, own.env id m.ver = some (some b) → n ≤ own.cap id m.ver)
  plain : m.row = false → m.ver = 0 ∧ m.sh = segs.map Seg.shape
  there : ∃ x, own.env id m.ver = some x
  nil : own.env id m.ver = some none → m.row = true ∧ ∃ f, segs = [.a 0 m.es f]
  live : ∀ b, own.env id m.ver = some (some b) → m.frz = false → Live B ro own segs w id m b
  froze : ∀ b, own.env id m.ver = some (some b) → m.frz = true → ∀ k, k < segsSize segs → ∃ v, ro b k = some v ∧ ∀ sv, flat segs k = some sv → Rel ro Own.empty sv v

/-- What stays the same through a call: where its own blocks begin, the world in which it began, what is read of it, how many temporaries there are, and something that is kept of what it owns and reads. -/
structure Env where
  B : Nat
  w0 : World
  R : RO
  N : Nat
  K : Own → RO → Prop
  mono : ∀ o o' r r', o.le o' → ROle r r' → K o r → K o' r'
structure SimG (E : Env) (ro : RO) (own : Own) (s : St) (w : World) (a : Act) : Prop where
  below : Below E.B E.w0 w
  base : E.B ≤ w.heap.size
  defs : a.defers = []
  size : a.tmps.size = E.N
  tm : ∀ t sv, s (.tm t) = .v sv → Rel ro own sv (a.tmps.getD t undef)
  rook : ∀ b o v, ro b o = some v → w.cell? ⟨b, o, none⟩ = some v
  rold : ∀ b o, b < E.B → ro b o = E.R b o
  ent : ∀ id m, s (.mt id) = .m (some m) → EntOK E.B ro own (s.segs id m.ns) w id m
  fr : ∀ id, s (.mt id) = .m none → ∀ ver, own.env id ver = none
  frv : ∀ id m, s (.mt id) = .m (some m) → ∀ ver, m.ver < ver → own.env id ver = none
  inj : ∀ id id' m m' b, s (.mt id) = .m (some m) → s (.mt id') = .m (some m') → m.frz = false → m'.frz = false → own.env id m.ver = some (some b) → own.env id' m'.ver = some (some b) → id = id'
  kk : E.K own ro
def Sim (E : Env) (s : St) (w : World) (a : Act) : Prop := ∃ ro own, SimG E ro own s w a

theorem St.put_self (s : St) (l : Loc) (x : Item) : s.put l x l = x := by simp [St.put]
theorem St.put_ne (s : St) {l l' : Loc} (x : Item) (h : l' ≠ l) : s.put l x l' = s l' := by simp [St.put, h]
theorem St.segs_put_tm (s : St) (t : Nat) (x : Item) (id n : Nat) : (s.put (.tm t) x).segs id n = s.segs id n := by
  simp only [St.segs]; refine List.map_congr_left fun q _ => ?_; simp [St.seg, St.put]
theorem St.segs_getElem (s : St) (id n q : Nat) (h : q < n) : (s.segs id n)[q]? = some (s.seg id q) := by
  simp [St.segs, h]
theorem St.segs_length (s : St) (id n : Nat) : (s.segs id n).length = n := by simp [St.segs]

/-- A temporary is written. -/
theorem SimG.put {E : Env} {ro : RO} {own : Own} {s : St} {w : World} {a : Act} (h : SimG E ro own s w a) {d : Nat} {sv : SV} {v : Value} (hd : d < E.N) (hr : Rel ro own sv v) :
    SimG E ro own (s.put (.tm d) (.v sv)) w (a.put (some d) v) := by
  refine { below := h.below, base := h.base, defs := h.defs, size := by simpa [Act.put] using h.size, tm := ?_, rook := h.rook, rold := h.rold, ent := ?_, fr := ?_, frv := ?_, inj := ?_, kk := h.kk }
  · intro t sv' ht
    by_cases e : t = d
    · subst e
      simp only [St.put, if_true, Item.v.injEq] at ht
      subst ht
      simp only [Act.put]
      rw [Array.getD_eq_getD_getElem?, Array.getElem?_setIfInBounds_self_of_lt (by rw [h.size]; exact hd)]
      exact hr
    · rw [St.put_ne _ _ (by simpa using e)] at ht
      simp only [Act.put]
      rw [Array.getD_eq_getD_getElem?, Array.getElem?_setIfInBounds_ne (by omega), ← Array.getD_eq_getD_getElem?]
      exact h.tm t sv' ht
  · intro id m hm
    rw [St.put_ne _ _ (by simp)] at hm
    rw [St.segs_put_tm]
    exact h.ent id m hm
  · intro id hm
    rw [St.put_ne _ _ (by simp)] at hm
    exact h.fr id hm
  · intro id m hm
    rw [St.put_ne _ _ (by simp)] at hm
    exact h.frv id m hm
  · intro id id' m m' b hm hm'
    rw [St.put_ne _ _ (by simp)] at hm hm'
    exact h.inj id id' m m' b hm hm'

/-- The world has only drawn. -/
theorem SimG.world {E : Env} {ro : RO} {own : Own} {s : St} {w w' : World} {a : Act} (h : SimG E ro own s w a) (hh : w'.heap = w.heap) (h1 : w'.os = w.os) (h2 : w'.tape = w.tape) (h3 : w'.output = w.output) : SimG E ro own s w' a := by
  refine { below := ⟨h1.trans h.below.os, h2.trans h.below.tape, h3.trans h.below.output, by rw [hh]; exact h.below.size, fun k hk => by rw [hh]; exact h.below.block k hk⟩, base := by rw [hh]; exact h.base, defs := h.defs, size := h.size, tm := h.tm, rook := ?_, rold := h.rold, ent := ?_, fr := h.fr, frv := h.frv, inj := h.inj, kk := h.kk }
  · intro b o v e
    have := h.rook b o v e
    simpa [World.cell?, hh] using this
  · intro id m hm
    have := h.ent id m hm
    refine { st := this.st, es := this.es, row := this.row, plain := this.plain, there := this.there, nil := this.nil, live := ?_, froze := this.froze }
    intro b hb hf
    have hl := this.live b hb hf
    exact ⟨hl.low, hl.apart, by rw [hh]; exact hl.body⟩

/-- What lies in an own block is read. -/
theorem SimG.cell' {E : Env} {ro : RO} {own : Own} {s : St} {w : World} {a : Act} (h : SimG E ro own s w a) {id : Nat} {m : Mta} {b k : Nat} (hm : s (.mt id) = .m (some m)) (hb : own.env id m.ver = some (some b))
    (hk : k < segsSize (s.segs id m.ns)) : ∃ v, w.cell? ⟨b, k, none⟩ = some v ∧ ∀ sv, flat (s.segs id m.ns) k = some sv → Rel ro own sv v := by
  have he := h.ent id m hm
  cases hz : m.frz with
  | true =>
    obtain ⟨v, hv, hr⟩ := he.froze b hb hz k hk
    exact ⟨v, h.rook b k v hv, fun sv hs => (hr sv hs).own (Own.empty_le _)⟩
  | false =>
    obtain ⟨cs, e, lo, hi, hh, _, _, hsz, hc, _, _⟩ := (he.live b hb hz).body
    have hk : k < cs.size := Nat.lt_of_lt_of_le hk hsz
    refine ⟨cs.getD k undef, ?_, hc k⟩
    rw [World.cell?]
    simp only [hh]
    simp [hk]
theorem SimG.cell {E : Env} {ro : RO} {own : Own} {s : St} {w : World} {a : Act} (h : SimG E ro own s w a) {id : Nat} {m : Mta} {b k : Nat} {sv : SV} (hm : s (.mt id) = .m (some m)) (hb : own.env id m.ver = some (some b))
    (hf : flat (s.segs id m.ns) k = some sv) : ∃ v, w.cell? ⟨b, k, none⟩ = some v ∧ Rel ro own sv v := by
  obtain ⟨v, hv, hr⟩ := h.cell' hm hb (flat_lt hf)
  exact ⟨v, hv, hr sv hf⟩
end Go.Sx
