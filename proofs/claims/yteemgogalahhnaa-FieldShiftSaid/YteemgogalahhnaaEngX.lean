/-
  Lean values as cells: numbers, bools, texts, structs; rows of them as lists; arguments and signatures; ports for them.
-/
import Derived.Test.YteemgogalahhnaaEngW
namespace Go.Sx
set_option linter.unusedVariables false
set_option linter.unusedSimpArgs false
open Go Go.RowKit

/-- How values of a Lean type lie in cells. -/
structure Cod (α : Type) where
  n : Nat
  enc : α → List SV
  dec : List SV → Option α
  dft : α
  good : List SV → Prop
  ok : ∀ l a, dec l = some a → good l → leZL l (enc a)
  self : ∀ a, dec (enc a) = some a
  fine : ∀ a, good (enc a)
  len : ∀ a, (enc a).length = n
  mrg : ∀ (c : Bool) x y a b, dec x = some a → dec y = some b → dec (mergeL c x y) = some (if c then a else b)
@[simp] theorem isT : IsT true ↔ True := ⟨fun _ => trivial, fun _ => ⟨rfl⟩⟩
def rI (ik : IntKind) (x : SV) : Option Int := match x with
  | .int k n => if k = ik then some n else none
  | _ => none
def rB (x : SV) : Option Bool := match x with
  | .bool b => some b
  | .tt => some true
  | .ff => some false
  | _ => none
def rS (x : SV) : Option (List UInt8) := match x with
  | .str s => some s
  | _ => none
def oB {α β : Type} (o : Option α) (k : α → Option β) : Option β := match o with
  | some a => k a
  | none => none
theorem oB_ok {α β : Type} {o : Option α} {k : α → Option β} {b : β} (h : oB o k = some b) : ∃ a, o = some a ∧ k a = some b := by
  unfold oB at h; split at h
  · exact ⟨_, rfl, h⟩
  · cases h
theorem oB_some {α β : Type} {a : α} {k : α → Option β} : oB (some a) k = k a := rfl
theorem rI_ok {ik : IntKind} {x : SV} {n : Int} (h : rI ik x = some n) : x = .int ik n := by
  unfold rI at h; split at h
  · split at h
    · rename_i e; cases h; rw [e]
    · cases h
  · cases h
theorem rB_ok {x : SV} {b : Bool} (h : rB x = some b) : leZ x (.bool b) ∧ (x = .bool b ∨ (b = true ∧ x = .tt) ∨ (b = false ∧ x = .ff)) := by
  unfold rB at h; split at h <;> cases h
  · exact ⟨rfl, .inl rfl⟩
  · exact ⟨rfl, .inr (.inl ⟨rfl, rfl⟩)⟩
  · exact ⟨rfl, .inr (.inr ⟨rfl, rfl⟩)⟩
theorem rS_ok {x : SV} {s : List UInt8} (h : rS x = some s) : x = .str s := by
  unfold rS at h; split at h <;> cases h; rfl
theorem rI_leZ0 {ik : IntKind} {x : SV} {n : Int} (h : rI ik x = some n) : leZ0 x (.int ik n) := by rw [rI_ok h]; exact andB_iff.2 ⟨by simp, rfl⟩
theorem rB_leZ0 {x : SV} {b : Bool} (h : rB x = some b) : leZ0 x (.bool b) := by
  unfold rB at h; split at h <;> cases h <;> rfl
theorem rS_leZ0 {x : SV} {s : List UInt8} (h : rS x = some s) : leZ0 x (.str s) := by rw [rS_ok h]; exact rfl
theorem leZ0_leZ {x y : SV} (h : leZ0 x y) : leZ x y := by
  revert h
  cases x <;> cases y <;> simp [leZ, leZ0]
theorem leZ0L_leZL : ∀ {a b : List SV}, leZ0L a b → leZL a b
  | [], [], _ => trivial
  | _ :: _, _ :: _, h => ⟨leZ0_leZ h.1, leZ0L_leZL h.2⟩
  | [], _ :: _, h => h.elim
  | _ :: _, [], h => h.elim
theorem rI_leZ {ik : IntKind} {x : SV} {n : Int} (h : rI ik x = some n) : leZ x (.int ik n) := by rw [rI_ok h]; exact andB_iff.2 ⟨by simp, rfl⟩
theorem rS_leZ {x : SV} {s : List UInt8} (h : rS x = some s) : leZ x (.str s) := by rw [rS_ok h]; exact rfl
theorem rI_self (ik : IntKind) (n : Int) : rI ik (.int ik n) = some n := by simp [rI]
theorem rB_self (b : Bool) : rB (.bool b) = some b := rfl
theorem rS_self (s : List UInt8) : rS (.str s) = some s := rfl
theorem rI_mrg {ik : IntKind} {c : Bool} {x y : SV} {a b : Int} (h : rI ik x = some a) (k : rI ik y = some b) : rI ik (mergeIf c x y) = some (if c then a else b) := by
  rw [rI_ok h, rI_ok k]; simp [mergeIf, rI]
theorem rB_mrg {c : Bool} {x y : SV} {a b : Bool} (h : rB x = some a) (k : rB y = some b) : rB (mergeIf c x y) = some (if c then a else b) := by
  rcases (rB_ok h).2 with rfl | ⟨rfl, rfl⟩ | ⟨rfl, rfl⟩ <;> rcases (rB_ok k).2 with rfl | ⟨rfl, rfl⟩ | ⟨rfl, rfl⟩ <;> cases c <;> rfl
theorem rS_mrg {c : Bool} {x y : SV} {a b : List UInt8} (h : rS x = some a) (k : rS y = some b) : rS (mergeIf c x y) = some (if c then a else b) := by
  rw [rS_ok h, rS_ok k]; simp [mergeIf, rS]
def codI (ik : IntKind) : Cod Int where
  n := 1
  enc a := [.int ik a]
  dec := fun | [x] => rI ik x | _ => none
  dft := 0
  good _ := True
  fine _ := trivial
  ok l a h _ := by split at h <;> first | cases h; done | exact ⟨rI_leZ h, trivial⟩
  self a := rI_self ik a
  len _ := rfl
  mrg c x y a b h k := by split at h <;> first | cases h; done | (split at k <;> first | cases k; done | exact rI_mrg h k)
def codB : Cod Bool where
  n := 1
  enc a := [.bool a]
  dec := fun | [x] => rB x | _ => none
  dft := false
  good _ := True
  fine _ := trivial
  ok l a h _ := by split at h <;> first | cases h; done | exact ⟨(rB_ok h).1, trivial⟩
  self a := rB_self a
  len _ := rfl
  mrg c x y a b h k := by split at h <;> first | cases h; done | (split at k <;> first | cases k; done | exact rB_mrg h k)
def codS : Cod (List UInt8) where
  n := 1
  enc a := [.str a]
  dec := fun | [x] => rS x | _ => none
  dft := []
  good _ := True
  fine _ := trivial
  ok l a h _ := by split at h <;> first | cases h; done | exact ⟨rS_leZ h, trivial⟩
  self a := rS_self a
  len _ := rfl
  mrg c x y a b h k := by split at h <;> first | cases h; done | (split at k <;> first | cases k; done | exact rS_mrg h k)
section
variable {α : Type} (C : Cod α)
/-- A row's elements as a list. -/
def rowL (n : Nat) (f : Nat → List SV) : List α := (List.range n).map fun i => (C.dec (f i)).getD C.dft
/-- A list's elements as a row's. -/
def rowE (l : List α) : Nat → List SV := fun i => C.enc (l.getD i C.dft)
def rowP (n : Nat) (f : Nat → List SV) : Prop := ∀ i, i < n → (C.dec (f i)).isSome = true ∧ C.good (f i)
variable {C}
@[simp] theorem rowL_length (n : Nat) (f : Nat → List SV) : (rowL C n f).length = n := by simp [rowL]
theorem rowL_get {n : Nat} {f : Nat → List SV} {i : Nat} (h : i < n) (d : α) : (rowL C n f).getD i d = (C.dec (f i)).getD C.dft := by
  simp [rowL, h]
theorem rowL_of {n : Nat} {f : Nat → List SV} {l : List α} (hn : n = l.length) (h : ∀ i, i < n → C.dec (f i) = some (l.getD i C.dft)) : rowL C n f = l := by
  subst hn
  apply List.ext_getElem
  · simp [rowL]
  · intro i h1 h2
    simp [rowL, h i h2, h2]
theorem rowL_enc {n : Nat} {l : List α} (hn : n = l.length) : rowL C n (fun i => C.enc (l.getD i C.dft)) = l := rowL_of hn fun i _ => C.self _
theorem rowL_app {n k : Nat} {l m : List α} {g : Nat → List SV} (hn : n = l.length) (hk : k = m.length) (h : ∀ i, i < k → C.dec (g i) = some (m.getD i C.dft)) (hg : (C.dec (g 0)).isSome = true) : rowL C (n + k) (fun j => mergeL (decide (j < n)) (C.enc (l.getD j C.dft)) (g (j - n))) = l ++ m := by
  refine rowL_of (by simp [hn, hk]) fun i hi => ?_
  by_cases h1 : i < n
  · have : ∀ c x y a, C.dec x = some a → c = true → (C.dec y).isSome = true → C.dec (mergeL c x y) = some a := by
      intro c x y a hx hc hy
      obtain ⟨b, hb⟩ := Option.isSome_iff_exists.1 hy
      subst hc
      simpa using C.mrg true x y a b hx hb
    rw [this _ _ _ _ (C.self _) (by simpa using h1)]
    · congr 1
      simp [List.getD_eq_getElem?_getD, List.getElem?_append_left (show i < l.length by omega)]
    · rw [show i - n = 0 by omega, hg]
  · have := C.mrg false (C.enc (l.getD i C.dft)) (g (i - n)) _ _ (C.self _) (h (i - n) (by omega))
    rw [show decide (i < n) = false by simpa using h1, this]
    simp [List.getD_eq_getElem?_getD, List.getElem?_append_right (show l.length ≤ i by omega), hn]
theorem rowL_const {n : Nat} {x : List SV} {v : α} (hx : C.dec x = some v) : rowL C n (fun _ => x) = List.replicate n v := by
  refine rowL_of (by simp) fun i hi => ?_
  rw [hx]; simp [List.getD_eq_getElem?_getD, hi]
theorem rowL_set {n i : Nat} {l : List α} {x : List SV} {v : α} (hn : n = l.length) (hx : C.dec x = some v) : rowL C n (fun j => mergeL (decide (j = i)) x (C.enc (l.getD j C.dft))) = l.set i v := by
  refine rowL_of (by simp [hn]) fun j hj => ?_
  rw [C.mrg _ _ _ _ _ hx (C.self _)]
  by_cases e : j = i
  · subst e; simp [List.getD_eq_getElem?_getD, List.getElem?_set, ← hn, hj]
  · simp [List.getD_eq_getElem?_getD, List.getElem?_set, e, Ne.symm e]
theorem rowL_sub {n o : Nat} {l : List α} (hn : o + n ≤ l.length) : rowL C n (fun i => C.enc (l.getD (o + i) C.dft)) = (l.drop o).take n := by
  refine rowL_of (by simp; omega) fun i hi => ?_
  rw [C.self]
  simp [List.getD_eq_getElem?_getD, List.getElem?_take, hi]
end
section
variable {α : Type} {C : Cod α}
theorem rowL_pushE {l : List α} {v : α} : rowL C (l.length + 1) (fun j => mergeL (decide (j < l.length)) (C.enc (l.getD j C.dft)) (C.enc v)) = l ++ [v] := rowL_app (C := C) (k := 1) (m := [v]) (g := fun _ => C.enc v) rfl rfl (fun i hi => by rw [C.self]; simp [show i = 0 by omega]) (by rw [C.self]; rfl)
theorem rowL_setE {n i : Nat} {l : List α} {v : α} (hn : n = l.length) : rowL C n (fun j => mergeL (decide (j = i)) (C.enc v) (C.enc (l.getD j C.dft))) = l.set i v := rowL_set hn (C.self v)
theorem rowL_take {n : Nat} {l : List α} (hn : n ≤ l.length) : rowL C n (fun i => C.enc (l.getD i C.dft)) = l.take n :=
  rowL_of (by simp; omega) fun i hi => by rw [C.self]; simp [List.getD_eq_getElem?_getD, List.getElem?_take, hi]
theorem rowL_push {l : List α} {x : List SV} {v : α} (hx : C.dec x = some v) : rowL C (l.length + 1) (fun j => mergeL (decide (j < l.length)) (C.enc (l.getD j C.dft)) x) = l ++ [v] :=
  rowL_app (C := C) (k := 1) (m := [v]) (g := fun _ => x) rfl rfl (fun i hi => by rw [hx]; simp [show i = 0 by omega]) (by rw [hx]; rfl)
end
theorem getD_push {α : Type} {l : List α} {v d : α} {i : Nat} (hi : i < l.length + 1) : (l ++ [v]).getD i d = if i < l.length then l.getD i d else v := by
  by_cases h : i < l.length
  · simp [h, List.getD_eq_getElem?_getD, List.getElem?_append_left h]
  · have : i = l.length := by omega
    subst this; simp [List.getD_eq_getElem?_getD]
theorem getD_set {α : Type} {l : List α} {v d : α} {i j : Nat} (hj : j < l.length) : (l.set i v).getD j d = if j = i then v else l.getD j d := by
  by_cases h : j = i
  · subst h; simp [List.getD_eq_getElem?_getD, List.getElem?_set, hj]
  · simp [List.getD_eq_getElem?_getD, List.getElem?_set, h, Ne.symm h]
@[simp] theorem codI_n (ik : IntKind) : (codI ik).n = 1 := rfl
@[simp] theorem codI_dft (ik : IntKind) : (codI ik).dft = 0 := rfl
@[simp] theorem codI_enc (ik : IntKind) (a : Int) : (codI ik).enc a = [.int ik a] := rfl
@[simp] theorem codB_n : codB.n = 1 := rfl
@[simp] theorem codB_dft : codB.dft = false := rfl
@[simp] theorem codB_enc (a : Bool) : codB.enc a = [.bool a] := rfl
@[simp] theorem codS_n : codS.n = 1 := rfl
@[simp] theorem codS_dft : codS.dft = [] := rfl
@[simp] theorem codS_enc (a : List UInt8) : codS.enc a = [.str a] := rfl
@[simp] theorem pushI {ik : IntKind} {l : List Int} {v : Int} : rowL (codI ik) (l.length + 1) (fun j => mergeL (decide (j < l.length)) [.int ik (l.getD j 0)] [.int ik v]) = l ++ [v] := rowL_push (rI_self ik v)
theorem setI {ik : IntKind} {n i : Nat} {l : List Int} {v : Int} (hn : n = l.length) : rowL (codI ik) n (fun j => mergeL (decide (j = i)) [.int ik v] [.int ik (l.getD j 0)]) = l.set i v := rowL_set hn (rI_self ik v)
@[simp] theorem zerosI {ik : IntKind} {n : Nat} {v : Int} : rowL (codI ik) n (fun _ => [.int ik v]) = List.replicate n v := by
  refine rowL_of (by simp) fun i hi => ?_
  simp [List.getD_eq_getElem?_getD, hi]
  exact rI_self ik v
@[simp] theorem selfI {ik : IntKind} {l : List Int} : rowL (codI ik) l.length (fun j => [.int ik (l.getD j 0)]) = l := rowL_enc (C := codI ik) rfl
@[simp] theorem pushB {l : List Bool} {v : Bool} : rowL codB (l.length + 1) (fun j => mergeL (decide (j < l.length)) [.bool (l.getD j false)] [.bool v]) = l ++ [v] := rowL_push (C := codB) rfl
theorem setB {n i : Nat} {l : List Bool} {v : Bool} (hn : n = l.length) : rowL codB n (fun j => mergeL (decide (j = i)) [.bool v] [.bool (l.getD j false)]) = l.set i v := rowL_set (C := codB) hn rfl
@[simp] theorem selfB {l : List Bool} : rowL codB l.length (fun j => [.bool (l.getD j false)]) = l := rowL_enc (C := codB) rfl
theorem subI {ik : IntKind} {n o : Nat} {l : List Int} (hn : o + n ≤ l.length) : rowL (codI ik) n (fun i => [.int ik (l.getD (o + i) 0)]) = (l.drop o).take n := rowL_sub (C := codI ik) hn
theorem takeI {ik : IntKind} {n : Nat} {l : List Int} (hn : n ≤ l.length) : rowL (codI ik) n (fun i => [.int ik (l.getD i 0)]) = l.take n := rowL_take (C := codI ik) hn
theorem codI_z {ik : IntKind} : ∀ l a, (codI ik).dec l = some a → (codI ik).good l → leZ0L l ((codI ik).enc a) := by
  intro l a h _
  simp only [codI] at h ⊢
  split at h <;> first | cases h; done | exact ⟨rI_leZ0 h, trivial⟩
theorem codB_z : ∀ l a, codB.dec l = some a → codB.good l → leZ0L l (codB.enc a) := by
  intro l a h _
  simp only [codB] at h ⊢
  split at h <;> first | cases h; done | exact ⟨rB_leZ0 h, trivial⟩
/-- Cells that hold slices. -/
def codR {α : Type} (C : Cod α) (h0 : ∀ l a, C.dec l = some a → C.good l → leZ0L l (C.enc a)) : Cod (List α) where
  n := 1
  enc l := [.ros C.n l.length fun i => C.enc (l.getD i C.dft)]
  dec := fun
    | [.ros es n f] => (match Nat.beq es C.n with
      | true => some (rowL C n f)
      | false => none)
    | [.nils] => some []
    | _ => none
  dft := []
  good := fun
    | [.ros _ n f] => rowP C n f
    | _ => True
  fine a := fun i _ => ⟨by rw [C.self]; rfl, C.fine _⟩
  ok l a h hg := by
    split at h
    · split at h
      case h_2 => cases h
      rename_i he
      cases h
      refine ⟨andB_iff.2 ⟨he, (rowL_length _ _).symm, fun i hi => ?_⟩, trivial⟩
      obtain ⟨b, hb⟩ := Option.isSome_iff_exists.1 (hg i hi).1
      have := h0 _ _ hb (hg i hi).2
      simp only [rowL_get hi, hb]
      exact this
    · cases h; exact ⟨rfl, trivial⟩
    · cases h
  self a := by
    simp only [Nat.beq_refl]
    rw [rowL_enc rfl]
  len _ := rfl
  mrg c x y a b h k := by
    split at h
    · split at h
      case h_2 => cases h
      rename_i he
      have he := Nat.eq_of_beq_eq_true he
      subst he
      cases h
      split at k
      · split at k
        case h_2 => cases k
        rename_i he
        have he := Nat.eq_of_beq_eq_true he
        subst he
        cases k
        cases c <;> simp [mergeL, mergeIf]
      · cases k
        cases c <;> simp [mergeL, mergeIf, rowL]
      · cases k
    · cases h
      split at k
      · split at k
        case h_2 => cases k
        rename_i he
        have he := Nat.eq_of_beq_eq_true he
        subst he
        cases k
        cases c <;> simp [mergeL, mergeIf, rowL]
      · cases k
        cases c <;> simp [mergeL, mergeIf]
      · cases k
    · cases h
@[simp] theorem setL_mrg {c : Bool} {x y v : SV} : setL (mergeL c [x] [y]) 0 [v] = [v] := rfl
@[simp] theorem setL_one {a b : SV} : setL [a] 0 [b] = [b] := rfl
/-! ### Arguments, signatures -/
structure Arg (α : Type) where
  enc : α → SV
  dec : SV → Option (Prop × α)
  ok : ∀ x p a, dec x = some (p, a) → p → leB nokp nonl x (enc a)
theorem leZ_leE {x y : SV} (h : leZ x y) : leE nokp nonl x y := by
  unfold leZ at h
  split at h
  · rename_i es n f es' n' f'
    rw [andB_iff, Nat.beq_eq] at h
    obtain ⟨rfl, rfl, h⟩ := h
    exact andB_iff.2 ⟨Nat.beq_refl _, rfl, fun i hi => leZ0L_leZL (h i hi)⟩
  · exact h
  · unfold leZ0 at h
    split at h <;> first | exact h.elim | skip
    · cases x <;> simp [leE, leZ, leZ0]
    all_goals first | (simp [leE, leZ, leZ0]; done) | simpa [leE, leZ, leZ0] using h
theorem leZL_leEL : ∀ {x y : List SV}, leZL x y → leEL nokp nonl x y
  | [], [], _ => trivial
  | _ :: _, _ :: _, h => ⟨leZ_leE h.1, leZL_leEL h.2⟩
  | [], _ :: _, h => h.elim
  | _ :: _, [], h => h.elim
theorem leZL_leSegs : ∀ {x y : List SV}, leZL x y → leSegs nokp nonl (x.map .s) (y.map .s)
  | [], [], _ => trivial
  | _ :: _, _ :: _, h => ⟨leZ_leE h.1, leZL_leSegs h.2⟩
  | [], _ :: _, h => h.elim
  | _ :: _, [], h => h.elim
theorem leE_leB {x y : SV} (h : leE nokp nonl x y) (hy : ∀ l, y ≠ .agg l) : leB nokp nonl x y := by
  unfold leB
  split
  · exact absurd rfl (hy _)
  · exact h
theorem leZ_leB {x y : SV} (h : leZ x y) (hy : ∀ l, y ≠ .agg l) : leB nokp nonl x y := leE_leB (leZ_leE h) hy
def argI (ik : IntKind) : Arg Int where
  enc := .int ik
  dec x := oB (rI ik x) fun a => some (True, a)
  ok x p a h _ := by
    obtain ⟨b, h1, h2⟩ := oB_ok h
    cases h2
    exact leZ_leB (rI_leZ h1) (by intro l; simp)
def argB : Arg Bool where
  enc := .bool
  dec x := oB (rB x) fun a => some (True, a)
  ok x p a h _ := by
    obtain ⟨b, h1, h2⟩ := oB_ok h
    cases h2
    exact leZ_leB (rB_ok h1).1 (by intro l; simp)
def argS : Arg (List UInt8) where
  enc := .str
  dec x := oB (rS x) fun a => some (True, a)
  ok x p a h _ := by
    obtain ⟨b, h1, h2⟩ := oB_ok h
    cases h2
    exact leZ_leB (rS_leZ h1) (by intro l; simp)
theorem cellsOfSegs_map : ∀ {g : List Seg} {cs : List SV}, cellsOfSegs g = some cs → g = cs.map .s
  | [], cs, h => by simp [cellsOfSegs] at h; subst h; rfl
  | .s v :: r, cs, h => by
    simp only [cellsOfSegs, Option.map_eq_some_iff] at h
    obtain ⟨c, h1, rfl⟩ := h
    simp [cellsOfSegs_map h1]
  | .a .. :: _, cs, h => by simp [cellsOfSegs] at h
/-- A struct. -/
def argA {α : Type} (C : Cod α) : Arg α where
  enc a := .agg ((C.enc a).map .s)
  dec x := match x with
    | .agg g => oB (cellsOfSegs g) fun cs => oB (C.dec cs) fun a => some (C.good cs, a)
    | _ => none
  ok x p a h hp := by
    split at h
    case h_2 => cases h
    obtain ⟨cs, h1, h⟩ := oB_ok h
    obtain ⟨b, h2, h⟩ := oB_ok h
    cases h
    rw [cellsOfSegs_map h1]
    exact leZL_leSegs (C.ok _ _ h2 hp)
/-- A slice, read as a list. -/
def encR {α : Type} (C : Cod α) (l : List α) : SV := .ros C.n l.length fun i => C.enc (l.getD i C.dft)
def argR {α : Type} (C : Cod α) : Arg (List α) where
  enc := encR C
  dec x := match x with
    | .ros es n f => (match Nat.beq es C.n with
      | true => some (rowP C n f, rowL C n f)
      | false => none)
    | .nils => some (True, [])
    | _ => none
  ok x p a h hp := by
    split at h
    · rename_i es n f
      split at h
      case h_2 => cases h
      rename_i he
      have he := Nat.eq_of_beq_eq_true he
      cases h
      refine andB_iff.2 ⟨by rw [he]; exact Nat.beq_refl _, (rowL_length n f).symm, fun i hi => ?_⟩
      obtain ⟨b, hb⟩ := Option.isSome_iff_exists.1 (hp i hi).1
      have := C.ok _ _ hb (hp i hi).2
      simp only [rowL_get hi, hb]
      exact this
    · cases h; exact rfl
    · cases h
/-- A function that is handed in. -/
structure Sig (α : Type) where
  n : Nat
  enc : α → List SV
  dec : List SV → Option (Prop × α)
  ok : DecOK n dec enc
def Sig.nil : Sig Unit where
  n := 0
  enc _ := []
  dec := fun | [] => some (True, ()) | _ => none
  ok l p a h _ := by dsimp only at h; split at h <;> cases h; exact ⟨trivial, rfl⟩
def Sig.one {α : Type} (A : Arg α) : Sig α where
  n := 1
  enc a := [A.enc a]
  dec := fun | [x] => A.dec x | _ => none
  ok l p a h hp := by
    dsimp only at h
    split at h
    · exact ⟨⟨A.ok _ _ _ h hp, trivial⟩, rfl⟩
    · cases h
def Sig.cons {α β : Type} (A : Arg α) (S : Sig β) : Sig (α × β) where
  n := S.n + 1
  enc a := A.enc a.1 :: S.enc a.2
  dec := fun | x :: r => (match A.dec x with
      | some (p, a) => (match S.dec r with
        | some (q, b) => some (p ∧ q, (a, b))
        | none => none)
      | none => none) | _ => none
  ok l p a h hp := by
    dsimp only at h
    split at h
    case h_2 => cases h
    split at h
    case h_2 => cases h
    rename_i h1
    split at h
    case h_2 => cases h
    rename_i h2
    cases h
    obtain ⟨g1, g2⟩ := S.ok _ _ _ h2 hp.2
    exact ⟨⟨A.ok _ _ _ h1 hp.1, g1⟩, by simp [g2]⟩
/-! ### Ports -/
def cellsAt (s : LSt) (id : Nat) : Nat → Nat → (List SV → Prop) → Prop
  | _, 0, k => k []
  | q, n + 1, k => svAt s (.sg id q) fun x => cellsAt s id (q + 1) n fun r => k (x :: r)
theorem cellsAt_ok {s : LSt} {id : Nat} : ∀ {n q : Nat} {k : List SV → Prop}, cellsAt s id q n k → ∃ l, k l
  | 0, _, _, h => ⟨_, h⟩
  | _ + 1, _, _, h => by obtain ⟨x, h⟩ := svAt_ok h; obtain ⟨r, h⟩ := cellsAt_ok h; exact ⟨_, h⟩
/-- A struct in cells q, .. of an own block. -/
def Port.cod {α : Type} (C : Cod α) (id q : Nat) : Port where
  T := α
  rd s k := cellsAt s id q C.n fun l => match C.dec l with
    | some a => k a
    | none => False
  ws _ a := segWrites id q ((C.enc a).map .s)
  all k := ∀ a, k a
  ok s k h := by
    obtain ⟨l, h⟩ := cellsAt_ok h
    split at h
    · exact ⟨_, h⟩
    · exact h.elim
  allok k h := h
/-- An own array or row whose length n does not turn. -/
def Port.arrL {α : Type} (C : Cod α) (n id q : Nat) : Port where
  T := List α
  rd s k := match s.get (.sg id q) with | .s (.a _ _ f) => k (rowL C n f) | _ => False
  ws _ l := [(.sg id q, .s (.a n C.n fun j => C.enc (l.getD j C.dft)))]
  all k := ∀ l, k l
  ok s k h := by
    split at h
    · exact ⟨_, h⟩
    · exact h.elim
  allok k h := h
/-- An own row that grows, and where its slice is kept; a row that is not there yet is a new one. -/
def Port.rowL {α : Type} (C : Cod α) (id : Nat) (e : TypeId) (at_ : List Loc) : Port where
  T := List α
  rd s k := match s.get (.sg id 0) with | .s (.a n _ f) => k (Sx.rowL C n f) | _ => k []
  ws s l := match s.get (.mt id) with
    | .m (some m) => (.sg id 0, .s (.a l.length C.n fun j => C.enc (l.getD j C.dft))) :: at_.map fun a => (a, itAt a (.sl id m.ver 0 l.length))
    | _ => (.mt id, .m (some ⟨0, false, true, some e, 1, C.n, []⟩)) :: (.sg id 0, .s (.a l.length C.n fun j => C.enc (l.getD j C.dft))) :: at_.map fun a => (a, itAt a (.sl id 0 0 l.length))
  all k := ∀ l, k l
  ok s k h := by
    split at h
    · exact ⟨_, h⟩
    · exact ⟨_, h⟩
  allok k h := h
/-- A slice that is only read. -/
def Port.rosL {α : Type} (C : Cod α) (l : Loc) : Port where
  T := List α
  rd s k := svAt s l fun | .ros _ n f => k (Sx.rowL C n f) | .nils => k [] | _ => False
  ws _ x := [(l, itAt l (encR C x))]
  all k := ∀ l, k l
  ok s k h := by
    obtain ⟨x, h⟩ := svAt_ok h
    split at h
    · exact ⟨_, h⟩
    · exact ⟨_, h⟩
    · exact h.elim
  allok k h := h
/-- Temporaries that are forgotten. -/
def Port.fogT (ts : List Nat) : Port where
  T := Unit
  rd _ k := k ()
  ws _ _ := ts.map fun t => (.tm t, .v .any)
  all k := k ()
  ok _ _ h := ⟨(), h⟩
  allok _ h _ := h
/-- An own block whose contents are forgotten. -/
def Port.fogB (id n : Nat) : Port where
  T := Unit
  rd _ k := k ()
  ws s _ := (List.range n).map fun q => (.sg id q, match s.get (.sg id q) with
    | .s (.s _) => .s (.s .any)
    | .s (.a n es _) => .s (.a n es fun _ => List.replicate es .any)
    | x => x)
  all k := k ()
  ok _ _ h := ⟨(), h⟩
  allok _ h _ := h
def Port.list : List Port → Port
  | [] => .unit
  | [p] => p
  | p :: r => .pair p (.list r)
end Go.Sx
