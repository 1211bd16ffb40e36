/-
  Contracts by types: what a function asks of its arguments and what it gives back, said of Lean values.
-/
import Derived.Test.YteemgogalahhnaaEngT
namespace Go.Sx
set_option linter.unusedVariables false
set_option linter.unusedSimpArgs false
open Go Go.RowKit

/-- A contract: the arguments are read as a Lean value. -/
def ctr {α : Type} (dec : List SV → Option (Prop × α)) (pre : α → Prop) (res : α → SV) : Ctr := fun args => forceL args fun args => match dec args with
  | some (p, a) => some (p ∧ pre a, res a)
  | none => none
/-- What is read spells the arguments again. -/
def DecOK {α : Type} (n : Nat) (dec : List SV → Option (Prop × α)) (enc : α → List SV) : Prop := ∀ l p a, dec l = some (p, a) → p → leBL nokp nonl l (enc a) ∧ l.length = n
theorem fn_ctr {P : Program} {C : Nat → Option Ctr} {f : Nat} {fn : Func} {code : Code} (hm : P.follows .mixedOrders = true) (hf : P.funcs[f]? = some fn) (hb : fn.body = some code) (hname : (fn.name == "runtime.NumGoroutine") = false)
    (hC : ∀ f c, C f = some c → FnOK P f c) {α : Type} {n : Nat} {dec : List SV → Option (Prop × α)} {enc : α → List SV} {pre : α → Prop} {res : α → SV} (hd : DecOK n dec enc) (hn : n ≤ fn.ntmps) (H : ∀ a, pre a → callVC P C fn code (enc a) (res a)) : FnOK P f (ctr dec pre res) := by
  refine fn_ok hm hf hb hname hC fun args p r hc hp => ?_
  unfold ctr at hc
  rw [forceL_eq] at hc
  split at hc
  case h_2 => cases hc
  rename_i q a ha
  simp only [Option.some.injEq, Prod.mk.injEq] at hc
  obtain ⟨rfl, rfl⟩ := hc
  obtain ⟨h1, h2⟩ := hd _ _ _ ha hp.1
  exact ⟨_, h1, by rw [← (leBL_at h1).1, h2]; exact hn, H _ hp.2⟩
/-! ### Reading arguments -/
section
variable {β : Type}
def aI (l : List SV) (k : Int → List SV → Option β) : Option β := match l with
  | .int .i64 n :: r => k n r
  | _ => none
def aU (l : List SV) (k : Int → List SV → Option β) : Option β := match l with
  | .int .u8 n :: r => k n r
  | _ => none
def aB (l : List SV) (k : Bool → List SV → Option β) : Option β := match l with
  | .bool b :: r => k b r
  | .tt :: r => k true r
  | .ff :: r => k false r
  | _ => none
def aG (l : List SV) (k : List Seg → List SV → Option β) : Option β := match l with
  | .agg g :: r => k g r
  | _ => none
def aR (es : Nat) (l : List SV) (k : Nat → (Nat → List SV) → List SV → Option β) : Option β := match l with
  | .ros es' n f :: r => (match Nat.beq es' es with
    | true => k n f r
    | false => none)
  | .nils :: r => k 0 (fun _ => []) r
  | _ => none
def aE (l : List SV) (x : Option β) : Option β := match l with
  | [] => x
  | _ => none
def gI (l : List Seg) (k : Int → List Seg → Option β) : Option β := match l with
  | .s (.int .i64 n) :: r => k n r
  | _ => none
def gB (l : List Seg) (k : Bool → List Seg → Option β) : Option β := match l with
  | .s (.bool b) :: r => k b r
  | .s .tt :: r => k true r
  | .s .ff :: r => k false r
  | _ => none
def gE (l : List Seg) (x : Option β) : Option β := match l with
  | [] => x
  | _ => none
variable {b : β}
theorem aI_ok {l : List SV} {k : Int → List SV → Option β} (h : aI l k = some b) : ∃ n r, l = .int .i64 n :: r ∧ k n r = some b := by
  unfold aI at h; split at h
  · exact ⟨_, _, rfl, h⟩
  · cases h
theorem aU_ok {l : List SV} {k : Int → List SV → Option β} (h : aU l k = some b) : ∃ n r, l = .int .u8 n :: r ∧ k n r = some b := by
  unfold aU at h; split at h
  · exact ⟨_, _, rfl, h⟩
  · cases h
theorem aB_ok {l : List SV} {k : Bool → List SV → Option β} (h : aB l k = some b) : ∃ x n r, l = x :: r ∧ leB nokp nonl x (.bool n) ∧ k n r = some b := by
  unfold aB at h; split at h
  · exact ⟨_, _, _, rfl, rfl, h⟩
  · exact ⟨_, _, _, rfl, rfl, h⟩
  · exact ⟨_, _, _, rfl, rfl, h⟩
  · cases h
theorem aG_ok {l : List SV} {k : List Seg → List SV → Option β} (h : aG l k = some b) : ∃ g r, l = .agg g :: r ∧ k g r = some b := by
  unfold aG at h; split at h
  · exact ⟨_, _, rfl, h⟩
  · cases h
theorem aR_ok {es : Nat} {l : List SV} {k : Nat → (Nat → List SV) → List SV → Option β} (h : aR es l k = some b) : ∃ x n f r, l = x :: r ∧ (∀ g, (∀ i, i < n → leZL (f i) (g i)) → leB nokp nonl x (.ros es n g)) ∧ k n f r = some b := by
  unfold aR at h; split at h
  · split at h
    case h_2 => cases h
    rename_i he
    have he := Nat.eq_of_beq_eq_true he
    subst he
    exact ⟨_, _, _, _, rfl, fun g hg => andB_iff.2 ⟨Nat.beq_refl _, rfl, hg⟩, h⟩
  · exact ⟨_, _, _, _, rfl, fun g hg => rfl, h⟩
  · cases h
theorem aE_ok {l : List SV} {x : Option β} (h : aE l x = some b) : l = [] ∧ x = some b := by
  unfold aE at h; split at h
  · exact ⟨rfl, h⟩
  · cases h
theorem gI_ok {l : List Seg} {k : Int → List Seg → Option β} (h : gI l k = some b) : ∃ n r, l = .s (.int .i64 n) :: r ∧ k n r = some b := by
  unfold gI at h; split at h
  · exact ⟨_, _, rfl, h⟩
  · cases h
theorem gB_ok {l : List Seg} {k : Bool → List Seg → Option β} (h : gB l k = some b) : ∃ x n r, l = .s x :: r ∧ leE nokp nonl x (.bool n) ∧ k n r = some b := by
  unfold gB at h; split at h
  · exact ⟨_, _, _, rfl, rfl, h⟩
  · exact ⟨_, _, _, rfl, rfl, h⟩
  · exact ⟨_, _, _, rfl, rfl, h⟩
  · cases h
theorem gE_ok {l : List Seg} {x : Option β} (h : gE l x = some b) : l = [] ∧ x = some b := by
  unfold gE at h; split at h
  · exact ⟨rfl, h⟩
  · cases h
end
/-- A table of contracts. -/
def tab : List (Nat × Ctr) → Nat → Option Ctr
  | [], _ => none
  | (f, c) :: r, g => match Nat.beq g f with
    | true => some c
    | false => tab r g
def TabOK (P : Program) : List (Nat × Ctr) → Prop
  | [] => True
  | (f, c) :: r => FnOK P f c ∧ TabOK P r
theorem tab_ok {P : Program} : ∀ {l : List (Nat × Ctr)}, TabOK P l → ∀ f c, tab l f = some c → FnOK P f c
  | [], _, f, c, h => by cases h
  | (g, d) :: r, h, f, c, hc => by
    simp only [tab] at hc
    split at hc
    · rename_i he
      have := Nat.eq_of_beq_eq_true he
      subst this
      cases hc; exact h.1
    · exact tab_ok h.2 f c hc
/-- The body of a function. -/
def codeOf (fn : Func) : Code := fn.body.getD .skip
theorem fn_tab {P : Program} {T : List (Nat × Ctr)} (hT : TabOK P T) {f : Nat} {fn : Func} (hm : P.follows .mixedOrders = true) (hf : P.funcs[f]? = some fn) (hb : fn.body = some (codeOf fn)) (hname : (fn.name == "runtime.NumGoroutine") = false)
    {α : Type} {n : Nat} {dec : List SV → Option (Prop × α)} {enc : α → List SV} {pre : α → Prop} {res : α → SV} (hd : DecOK n dec enc) (hn : Nat.ble n fn.ntmps = true) (H : ∀ a, pre a → callVC P (tab T) fn (codeOf fn) (enc a) (res a)) : TabOK P ((f, ctr dec pre res) :: T) :=
  ⟨fn_ctr hm hf hb hname (tab_ok hT) hd (Nat.le_of_ble_eq_true hn) H, hT⟩
theorem closed_of {x : SV} (h : closed1 x = true) : closed1 x = true := h
end Go.Sx
