/-
  A region: its operations one after the other on a symbolic state; and, where the model draws their order, why the order does not matter.
-/
import Derived.Test.YteemgogalahhnaaEngO
namespace Go.Sx
set_option linter.unusedVariables false
set_option linter.unusedSimpArgs false
open Go Go.RowKit
universe v

/-! ### States as lists -/
structure LSt where
  tm : List SV
  en : List (Mta × List Seg)
def LSt.get (s : LSt) : Loc → Item
  | .tm t => .v (s.tm.getD t .any)
  | .mt id => .m ((s.en[id]?).map (·.1))
  | .sg id q => .s (((s.en[id]?).bind fun e => e.2[q]?).getD (.s .any))
def LSt.set (s : LSt) : Loc → Item → Option LSt
  | .tm t, .v x => if t < s.tm.length then some { s with tm := s.tm.set t x } else none
  | .mt id, .m (some m) => match s.en[id]? with
    | some (_, l) => some { s with en := s.en.set id (m, l) }
    | none => if id = s.en.length then some { s with en := s.en ++ [(m, List.replicate m.ns (.s .any))] } else none
  | .sg id q, .s x => match s.en[id]? with
    | some (m, l) => if q < l.length then some { s with en := s.en.set id (m, l.set q x) } else none
    | none => none
  | _, _ => none
theorem LSt.set_get {s s' : LSt} {l : Loc} {x : Item} (h : s.set l x = some s') : s'.get = St.put s.get l x := by
  unfold LSt.set at h
  split at h
  · rename_i t x
    split at h
    case isFalse => cases h
    rename_i ht
    simp at h; subst h
    funext l
    cases l with
    | tm t' =>
      simp only [LSt.get, St.put, Loc.tm.injEq, List.getD_eq_getElem?_getD, List.getElem?_set]
      by_cases e : t = t'
      · subst e; simp [ht]
      · simp [e, Ne.symm e]
    | mt id => simp [LSt.get, St.put]
    | sg id q => simp [LSt.get, St.put]
  · rename_i id m
    split at h
    · rename_i m0 l0 he
      simp at h; subst h
      obtain ⟨hlt, he'⟩ := List.getElem?_eq_some_iff.1 he
      funext l
      cases l with
      | tm t => simp [LSt.get, St.put]
      | mt id' =>
        simp only [LSt.get, St.put, Loc.mt.injEq, List.getElem?_set]
        by_cases e1 : id = id'
        · subst e1; simp [hlt]
        · simp [e1, Ne.symm e1]
      | sg id' q =>
        simp only [LSt.get, St.put, List.getElem?_set]
        by_cases e1 : id = id'
        · subst e1; simp [hlt, he']
        · simp [e1]
    · rename_i he
      split at h
      case isFalse => cases h
      rename_i hl
      simp at h; subst h
      subst hl
      funext l
      cases l with
      | tm t => simp [LSt.get, St.put]
      | mt id' =>
        simp only [LSt.get, St.put, Loc.mt.injEq]
        by_cases e1 : id' = s.en.length
        · subst e1; simp
        · rcases Nat.lt_or_ge id' s.en.length with h1 | h1
          · simp [e1, List.getElem?_append_left h1]
          · rw [List.getElem?_eq_none (by simp; omega), List.getElem?_eq_none h1]; simp [e1]
      | sg id' q =>
        simp only [LSt.get, St.put]
        by_cases e1 : id' = s.en.length
        · subst e1
          simp only [List.getElem?_concat_length, Option.bind_some, List.getElem?_eq_none (Nat.le_refl _), Option.bind_none, Option.getD_none, reduceCtorEq, if_false]
          by_cases h2 : q < m.ns
          · simp [List.getElem?_replicate, h2]
          · simp [List.getElem?_replicate, h2]
        · rcases Nat.lt_or_ge id' s.en.length with h1 | h1
          · simp [List.getElem?_append_left h1]
          · rw [List.getElem?_eq_none (by simp; omega), List.getElem?_eq_none h1]; simp
  · rename_i id q x
    split at h
    case h_2 => cases h
    rename_i m0 l0 he
    split at h
    case isFalse => cases h
    rename_i hq
    simp at h; subst h
    obtain ⟨hlt, he'⟩ := List.getElem?_eq_some_iff.1 he
    funext l
    cases l with
    | tm t => simp [LSt.get, St.put]
    | mt id' =>
      simp only [LSt.get, St.put, List.getElem?_set]
      by_cases e1 : id = id'
      · subst e1; simp [hlt, he']
      · simp [e1]
    | sg id' q' =>
      simp only [LSt.get, St.put, Loc.sg.injEq, List.getElem?_set]
      by_cases e1 : id = id'
      · subst e1
        by_cases e2 : q = q'
        · subst e2; simp [hlt, List.getElem?_set, hq]
        · simp [hlt, he', List.getElem?_set, e2, Ne.symm e2]
      · simp [e1, Ne.symm e1]
  · cases h
def LSt.apply (s : LSt) : List (Loc × Item) → Option LSt
  | [] => some s
  | (l, x) :: r => match s.set l x with
    | some s' => s'.apply r
    | none => none
theorem LSt.apply_get : ∀ {ws : List (Loc × Item)} {s s' : LSt}, s.apply ws = some s' → s'.get = St.apply s.get ws
  | [], s, s', h => by simp [LSt.apply] at h; subst h; rfl
  | (l, x) :: r, s, s', h => by
    simp only [LSt.apply] at h
    split at h
    case h_2 => cases h
    rename_i s1 h1
    rw [LSt.apply_get h, LSt.set_get h1]; rfl

/-! ### Values brought to their first constructors (nothing is changed) -/
def forceNat {β : Sort v} : Nat → (Nat → β) → β
  | 0, k => k 0
  | n + 1, k => forceNat n fun m => k (m + 1)
theorem forceNat_eq {β : Sort v} : ∀ (n : Nat) (k : Nat → β), forceNat n k = k n
  | 0, _ => rfl
  | n + 1, k => by simp only [forceNat, forceNat_eq n]
def forceMeta {β : Sort v} (m : Mta) (k : Mta → β) : β :=
  match m with
  | ⟨ver, frz, row, app, ns, es, sh⟩ => forceNat ver fun ver => forceNat ns fun ns => forceNat es fun es =>
    let rest (frz row : Bool) : β := match app with
      | none => k ⟨ver, frz, row, none, ns, es, sh⟩
      | some t => k ⟨ver, frz, row, some t, ns, es, sh⟩
    match frz, row with
    | true, true => rest true true
    | true, false => rest true false
    | false, true => rest false true
    | false, false => rest false false
theorem forceMeta_eq {β : Sort v} (m : Mta) (k : Mta → β) : forceMeta m k = k m := by
  obtain ⟨ver, frz, row, app, ns, es, sh⟩ := m
  simp only [forceMeta, forceNat_eq]
  cases frz <;> cases row <;> cases app <;> rfl
def force1 {β : Sort v} (x : SV) (k : SV → β) : β :=
  match x with
  | .any => k .any
  | .bool b => k (.bool b)
  | .tt => k .tt
  | .ff => k .ff
  | .int a b => k (.int a b)
  | .str a => k (.str a)
  | .nils => k .nils
  | .agg a => k (.agg a)
  | .tup a => k (.tup a)
  | .ptr a b => forceNat a fun a => forceNat b fun b => k (.ptr a b)
  | .pel a b c d e => forceNat a fun a => forceNat b fun b => forceNat c fun c => forceNat e fun e => k (.pel a b c d e)
  | .sl a b c d => forceNat a fun a => forceNat b fun b => k (.sl a b c d)
  | .ros a b c => forceNat a fun a => k (.ros a b c)
  | .rop a b c d e => forceNat a fun a => forceNat e fun e => k (.rop a b c d e)
  | .fn a b c => k (.fn a b c)
  | .opq => k .opq
theorem force1_eq {β : Sort v} (x : SV) (k : SV → β) : force1 x k = k x := by cases x <;> simp only [force1, forceNat_eq]
def forceSegs {β : Sort v} : List Seg → (List Seg → β) → β
  | [], k => k []
  | .s v :: r, k => force1 v fun v => forceSegs r fun r => k (.s v :: r)
  | .a n es f :: r, k => forceSegs r fun r => k (.a n es f :: r)
theorem forceSegs_eq {β : Sort v} : ∀ (l : List Seg) (k : List Seg → β), forceSegs l k = k l
  | [], _ => rfl
  | .s v :: r, k => by simp only [forceSegs, force1_eq, forceSegs_eq r]
  | .a n es f :: r, k => by simp only [forceSegs, forceSegs_eq r]
def force2 {β : Sort v} (x : SV) (k : SV → β) : β :=
  match x with
  | .agg l => forceSegs l fun l => k (.agg l)
  | x => force1 x k
theorem force2_eq {β : Sort v} (x : SV) (k : SV → β) : force2 x k = k x := by
  cases x
  case agg l => exact forceSegs_eq l _
  all_goals (unfold force2; exact force1_eq _ k)
def forceL {β : Sort v} : List SV → (List SV → β) → β
  | [], k => k []
  | x :: r, k => force2 x fun x => forceL r fun r => k (x :: r)
theorem forceL_eq {β : Sort v} : ∀ (l : List SV) (k : List SV → β), forceL l k = k l
  | [], _ => rfl
  | x :: r, k => by simp only [forceL, force2_eq, forceL_eq r]
def force3 {β : Sort v} (x : SV) (k : SV → β) : β :=
  match x with
  | .tup l => forceL l fun l => k (.tup l)
  | .fn f a b => forceL a fun a => forceL b fun b => k (.fn f a b)
  | x => force2 x k
theorem force3_eq {β : Sort v} (x : SV) (k : SV → β) : force3 x k = k x := by
  cases x
  case tup l => exact forceL_eq l _
  case fn f a b => simp only [force3, forceL_eq]
  all_goals (unfold force3; exact force2_eq _ k)
def forceWs {β : Sort v} : List (Loc × Item) → (List (Loc × Item) → β) → β
  | [], k => k []
  | (l, x) :: r, k =>
    let go (l : Loc) : β := match x with
      | .v x => force3 x fun x => forceWs r fun r => k ((l, .v x) :: r)
      | .m (some m) => forceMeta m fun m => forceWs r fun r => k ((l, .m (some m)) :: r)
      | .m none => forceWs r fun r => k ((l, .m none) :: r)
      | .s (.s v) => force1 v fun v => forceWs r fun r => k ((l, .s (.s v)) :: r)
      | .s (.a n es f) => forceWs r fun r => k ((l, .s (.a n es f)) :: r)
    match l with
    | .tm t => go (.tm t)
    | .mt i => forceNat i fun i => go (.mt i)
    | .sg i q => forceNat i fun i => forceNat q fun q => go (.sg i q)
theorem forceWs_eq {β : Sort v} : ∀ (l : List (Loc × Item)) (k : List (Loc × Item) → β), forceWs l k = k l
  | [], _ => rfl
  | (l, x) :: r, k => by
    have go : ∀ l, (match x with
      | .v x => force3 x fun x => forceWs r fun r => k ((l, .v x) :: r)
      | .m (some m) => forceMeta m fun m => forceWs r fun r => k ((l, .m (some m)) :: r)
      | .m none => forceWs r fun r => k ((l, .m none) :: r)
      | .s (.s v) => force1 v fun v => forceWs r fun r => k ((l, .s (.s v)) :: r)
      | .s (.a n es f) => forceWs r fun r => k ((l, .s (.a n es f)) :: r)) = k ((l, x) :: r) := by
      intro l
      cases x with
      | v x => simp only [force3_eq, forceWs_eq r]
      | m x => cases x <;> simp only [forceMeta_eq, forceWs_eq r]
      | s x => cases x <;> simp only [force1_eq, forceWs_eq r]
    cases l <;> simp only [forceWs, forceNat_eq] <;> exact go _
/-- The lists of a state, written out. -/
def forceTm : List SV → (List SV → Prop) → Prop
  | [], k => k []
  | x :: r, k => forceTm r fun r => k (x :: r)
theorem forceTm_eq : ∀ (l : List SV) (k : List SV → Prop), forceTm l k = k l
  | [], _ => rfl
  | x :: r, k => by simp only [forceTm, forceTm_eq r]
def forceSg : List Seg → (List Seg → Prop) → Prop
  | [], k => k []
  | x :: r, k => forceSg r fun r => k (x :: r)
theorem forceSg_eq : ∀ (l : List Seg) (k : List Seg → Prop), forceSg l k = k l
  | [], _ => rfl
  | x :: r, k => by simp only [forceSg, forceSg_eq r]
def forceEn : List (Mta × List Seg) → (List (Mta × List Seg) → Prop) → Prop
  | [], k => k []
  | (m, l) :: r, k => forceSg l fun l => forceEn r fun r => k ((m, l) :: r)
theorem forceEn_eq : ∀ (l : List (Mta × List Seg)) (k : List (Mta × List Seg) → Prop), forceEn l k = k l
  | [], _ => rfl
  | (m, l) :: r, k => by simp only [forceEn, forceSg_eq, forceEn_eq r]
def LSt.force (s : LSt) (k : LSt → Prop) : Prop := forceTm s.tm fun tm => forceEn s.en fun en => k ⟨tm, en⟩
theorem LSt.force_eq (s : LSt) (k : LSt → Prop) : s.force k = k s := by simp only [LSt.force, forceTm_eq, forceEn_eq]

def forceItem {β : Sort v} (x : Item) (k : Item → β) : β := match x with
  | .v x => force3 x fun x => k (.v x)
  | .m (some m) => forceMeta m fun m => k (.m (some m))
  | .m none => k (.m none)
  | .s (.s v) => force1 v fun v => k (.s (.s v))
  | .s (.a n es f) => forceNat es fun es => k (.s (.a n es f))
theorem forceItem_eq {β : Sort v} (x : Item) (k : Item → β) : forceItem x k = k x := by
  cases x with
  | v x => simp only [forceItem, force3_eq]
  | m x => cases x <;> simp only [forceItem, forceMeta_eq]
  | s x => cases x <;> simp only [forceItem, force1_eq, forceNat_eq]
/-! ### The run -/
def Tx.run (s : LSt) : Tx → List Loc → (List Loc → List (Loc × Item) → Prop) → Prop
  | .done ws, R, k => k R ws
  | .rd l f, R, k => forceItem (s.get l) fun x => (f x).run s (l :: R) k
  | .req p a, R, k => p ∧ a.run s R k
  | .fail, _, _ => False
theorem Tx.run_ok {s : LSt} : ∀ {t : Tx} {R : List Loc} {k : List Loc → List (Loc × Item) → Prop}, t.run s R k → ∃ ws R', t.ok s.get ws ∧ k R' ws ∧ (∀ l ∈ t.reads s.get, l ∈ R') ∧ ∀ l ∈ R, l ∈ R'
  | .done ws, R, k, h => ⟨ws, R, rfl, h, by simp [Tx.reads], fun _ h => h⟩
  | .rd l f, R, k, h => by
    simp only [Tx.run, forceItem_eq] at h
    obtain ⟨ws, R', h1, h2, h3, h4⟩ := Tx.run_ok (t := f (s.get l)) h
    refine ⟨ws, R', h1, h2, fun l' hl => ?_, fun l' hl => h4 l' (by simp [hl])⟩
    simp only [Tx.reads, List.mem_cons] at hl
    rcases hl with rfl | hl
    · exact h4 _ (by simp)
    · exact h3 l' hl
  | .req p a, R, k, h => by
    obtain ⟨ws, R', h1, h2, h3, h4⟩ := Tx.run_ok (t := a) h.2
    exact ⟨ws, R', ⟨h.1, h1⟩, h2, h3, h4⟩
/-- What stays the same: the program, how many temporaries, the contracts. -/
structure Ctx where
  P : Program
  N : Nat
  C : Nat → Option Ctr
abbrev Tr := List Loc × List Loc
/-- Is operation i of the region a guard of another one? -/
def isSrc (ops : Array Oper) (i : Nat) : Bool := ops.toList.any fun o => match o.guard with
  | some (j, _) => j == i
  | none => false
def guardSlot (ops : Array Oper) (j : Nat) : Option Tmp := (ops[j]?).bind (·.dst)
def undefW (dst : Option Tmp) : List (Loc × Item) := match dst with
  | some d => [(.tm d, .v (.tup []))]
  | none => []
def stepW (ops : Array Oper) (i : Nat) (ws : List (Loc × Item)) (k : List (Loc × Item) → Prop) : Prop :=
  match ws with
  | [(.tm t, .v (.bool b))] => (match isSrc ops i with
    | true => (b = true → k [(.tm t, .v .tt)]) ∧ (b = false → k [(.tm t, .v .ff)])
    | false => k ws)
  | ws => k ws
def setC {α : Type} : List α → Nat → α → (List α → Prop) → Prop
  | [], _, _, _ => False
  | _ :: r, 0, v, k => k (v :: r)
  | x :: r, n + 1, v, k => setC r n v fun r => k (x :: r)
theorem setC_ok {α : Type} : ∀ {l : List α} {n : Nat} {v : α} {k : List α → Prop}, setC l n v k → n < l.length ∧ k (l.set n v)
  | [], _, _, _, h => h.elim
  | _ :: _, 0, _, _, h => ⟨by simp, h⟩
  | x :: r, n + 1, v, k, h => by
    obtain ⟨h1, h2⟩ := setC_ok (l := r) h
    exact ⟨by simpa using h1, h2⟩
def appC {α : Type} : List α → α → (List α → Prop) → Prop
  | [], v, k => k [v]
  | x :: r, v, k => appC r v fun r => k (x :: r)
theorem appC_eq {α : Type} : ∀ (l : List α) (v : α) (k : List α → Prop), appC l v k = k (l ++ [v])
  | [], _, _ => rfl
  | x :: r, v, k => by simp only [appC, appC_eq r]; rfl
/-- LSt.set, with the lists written out. -/
def LSt.setW (s : LSt) (l : Loc) (x : Item) (k : LSt → Prop) : Prop := match s with
  | ⟨tm, en⟩ => match l, x with
    | .tm t, .v x => setC tm t x fun tm => k ⟨tm, en⟩
    | .mt id, .m (some m) => match en[id]? with
      | some (_, l) => setC en id (m, l) fun en => k ⟨tm, en⟩
      | none => match Nat.beq id en.length with
        | true => appC en (m, List.replicate m.ns (.s .any)) fun en => k ⟨tm, en⟩
        | false => False
    | .sg id q, .s x => match en[id]? with
      | some (m, l) => setC l q x fun l => setC en id (m, l) fun en => k ⟨tm, en⟩
      | none => False
    | _, _ => False
theorem LSt.setW_ok {s : LSt} {l : Loc} {x : Item} {k : LSt → Prop} (h : s.setW l x k) : ∃ s', s.set l x = some s' ∧ k s' := by
  obtain ⟨tm, en⟩ := s
  unfold LSt.setW at h
  simp only at h
  split at h
  · obtain ⟨h1, h2⟩ := setC_ok h
    exact ⟨_, by simp [LSt.set, h1], h2⟩
  · split at h
    · rename_i he
      obtain ⟨h1, h2⟩ := setC_ok h
      exact ⟨_, by simp [LSt.set, he], h2⟩
    · rename_i he
      split at h
      case h_2 => exact h.elim
      rename_i hb
      rw [appC_eq] at h
      have hb := Nat.eq_of_beq_eq_true hb
      subst hb
      exact ⟨_, by simp [LSt.set], h⟩
  · split at h
    case h_2 => exact h.elim
    rename_i he
    obtain ⟨h1, h2⟩ := setC_ok h
    obtain ⟨h3, h4⟩ := setC_ok h2
    exact ⟨_, by simp [LSt.set, he, h1], h4⟩
  · exact h.elim
def contW (s : LSt) (ws : List (Loc × Item)) (k : LSt → Prop) : Prop := match ws with
  | [] => k s
  | (l, x) :: r => s.setW l x fun s => contW s r k
def skipW (s : LSt) (d : Option Tmp) (k : LSt → Prop) : Prop := match d with
  | none => k s
  | some t => match s.get (.tm t) with
    | .v (.tup []) => k s
    | _ => contW s (undefW d) k
def runOps (X : Ctx) (ops : Array Oper) : List Oper → Nat → LSt → List Tr → (LSt → List Tr → Prop) → Prop
  | [], _, s, tr, k => k s tr
  | o :: rest, i, s, tr, k =>
    let wanted (R : List Loc) : Prop := forceNat s.en.length fun nid => (txOp X.P X.N X.C nid o).run s R fun R ws => forceWs ws fun ws => stepW ops i ws fun ws => contW s ws fun s' => runOps X ops rest (i + 1) s' (tr ++ [(R, ws.map (·.1))]) k
    let skipped (R : List Loc) : Prop := skipW s o.dst fun s' => runOps X ops rest (i + 1) s' (tr ++ [(R, (undefW o.dst).map (·.1))]) k
    match o.guard with
    | none => wanted []
    | some (j, want) => match guardSlot ops j with
      | some t => match s.get (.tm t) with
        | .v .tt => if want then wanted [.tm t] else skipped [.tm t]
        | .v .ff => if want then skipped [.tm t] else wanted [.tm t]
        | .v (.tup []) => skipped [.tm t]
        | _ => False
      | none => False
end Go.Sx
