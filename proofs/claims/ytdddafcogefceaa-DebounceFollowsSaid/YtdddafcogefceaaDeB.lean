import Derived.Test.YtdddafcogefceaaDeA
namespace Go.Proofs.De
set_option linter.unusedVariables false
set_option linter.unusedSimpArgs false
open Go Go.Sx Go.Proofs
set_option maxRecDepth 100000
-- ABBR: (rowL codF l.length fun i => codF.enc (l.getD i codF.dft)) ==> (rrF l)
-- ABBR: (rowL (codI IntKind.i64) (64 : Nat) fun j => [SV.int IntKind.i64 (s.count.getD j (0 : Int))]) ==> (rrC s)
-- ABBR: codF.dft ==> (⟨0, 0⟩ : Filter)
def rrF (l : List Filter) : List Filter := rowL codF l.length fun i => codF.enc (l.getD i codF.dft)
def rrC (s : D) : List Int := rowL (codI IntKind.i64) (64 : Nat) fun j => [SV.int IntKind.i64 (s.count.getD j (0 : Int))]
abbrev cva (T : List (Nat × Ctr)) (fn : Func) (A : List Ann) (args : List SV) (r : SV) : Prop := callVA Try.prog (tab T) fn (codeOf fn) A args r
def W (n : Int) : Int := IntKind.i64.wrap n
def thrS (l : List Filter) (closed : Int) (i : Nat) : Int := if bit closed i then (l.getD i ⟨1, 1⟩).open_ else (l.getD i ⟨1, 1⟩).close
def okF (f : Filter) : Bool := decide (1 ≤ f.close ∧ f.close ≤ 63 ∧ 1 ≤ f.open_ ∧ f.open_ ≤ 63)
def validS (l : List Filter) : Int := if 64 < l.length then 9 else if l.all okF then 0 else 5
def cnt (d : D) (i : Nat) : Int := d.count.getD i 0
def okC (l : List Filter) (d : D) (i : Nat) : Bool := decide (0 ≤ cnt d i ∧ cnt d i < thrS l d.closed i)
def isSS (l : List Filter) (d : D) : Bool := decide (validS l = 0) && (List.range 64).all (okC l d)
attribute [irreducible] W thrS okF validS cnt okC isSS
def T29 : List (Nat × Ctr) := [(29, ctr sFUI.dec (fun a => isU a.2.1 ∧ 0 ≤ a.2.2 ∧ a.2.2 < 64) (fun a => iS (thrS a.1 a.2.1 a.2.2.toNat)))]
def vc29 (l : List Filter) (c i : Int) : Prop := cva [] Try.f29 [] [encR codF l, .int .u64 c, iS i] (iS (thrS l c i.toNat))
def T27 : List (Nat × Ctr) := (27, ctr sFUI.dec (fun a => isU a.2.1 ∧ 0 ≤ a.2.2 ∧ a.2.2 < 64) (fun a => iS (thrS a.1 a.2.1 a.2.2.toNat))) :: T29
def vc27 (l : List Filter) (c i : Int) : Prop := cva T29 Try.f27 [] [encR codF l, .int .u64 c, iS i] (iS (thrS l c i.toNat))
def I18 (l : List Filter) (i : Int) : Prop := 0 ≤ i ∧ i ≤ l.length ∧ (l.take i.toNat).all okF = true
def I20 (l : List Filter) (d : D) (i : Int) : Prop := 0 ≤ i ∧ i ≤ 64 ∧ ∀ j : Nat, j < i → okC l d j = true
attribute [irreducible] I18 I20
def A18 (t : Nat) (l : List Filter) : List Ann := [⟨.unit, .int .i64 (.tm t), fun _ (x : Int) => I18 l x, fun _ (x : Int) => (l.length - x).toNat⟩]
def A20 (t : Nat) (l : List Filter) (d : D) : List Ann := [⟨.unit, .int .i64 (.tm t), fun _ (x : Int) => I20 l d x, fun _ (x : Int) => (64 - x).toNat⟩]
def cValid : Ctr := ctr sF.dec (fun _ => True) (fun a => iS (validS a))
def T18 : List (Nat × Ctr) := (18, cValid) :: T27
def vc18 (l : List Filter) : Prop := cva T27 Try.f18 (A18 10 l) [encR codF l] (iS (validS l))
def T19 : List (Nat × Ctr) := (19, cValid) :: T18
def vc19 (l : List Filter) : Prop := cva T18 Try.f19 (A18 3 l) [encR codF l] (iS (validS l))
def cIs : Ctr := ctr sFD.dec (fun a => isU a.2.closed) (fun a => .bool (isSS a.1 a.2))
def T20 : List (Nat × Ctr) := (20, cIs) :: T19
def vc20 (l : List Filter) (s : D) : Prop := cva T19 Try.f20 (A20 12 l s) [encR codF l, encD s] (.bool (isSS l s))
def T21 : List (Nat × Ctr) := (21, cIs) :: T20
def vc21 (l : List Filter) (s : D) : Prop := cva T20 Try.f21 (A20 5 l s) [encR codF l, encD s] (.bool (isSS l s))
theorem vc29_eq (l : List Filter) (c i : Int) : (True ∧ True ∧ True ∧ (decide (i < ↑l.length) = true → ((0 : Int) ≤ i ∧ i < ↑l.length) ∧ True ∧ (0 : Int) ≤ i ∧ True ∧ ((bits BinOp.and IntKind.u64 (c / (2 : Int) ^ min i.toNat IntKind.u64.bits) (1 : Int) == (1 : Int)) = true → True ∧ True ∧ (l.getD i.toNat (⟨0, 0⟩ : Filter)).open_ = thrS l c i.toNat ∧ True) ∧ ((bits BinOp.and IntKind.u64 (c / (2 : Int) ^ min i.toNat IntKind.u64.bits) (1 : Int) == (1 : Int)) = false → True ∧ True ∧ (l.getD i.toNat (⟨0, 0⟩ : Filter)).close = thrS l c i.toNat ∧ True)) ∧ (decide (i < ↑l.length) = false → (0 : Int) ≤ i ∧ True ∧ ((bits BinOp.and IntKind.u64 (c / (2 : Int) ^ min i.toNat IntKind.u64.bits) (1 : Int) == (1 : Int)) = true → True ∧ True ∧ (1 : Int) = thrS l c i.toNat ∧ True) ∧ ((bits BinOp.and IntKind.u64 (c / (2 : Int) ^ min i.toNat IntKind.u64.bits) (1 : Int) == (1 : Int)) = false → True ∧ True ∧ (1 : Int) = thrS l c i.toNat ∧ True))) = vc29 l c i := by kernel_rfl
theorem vc27_eq (l : List Filter) (c i : Int) : (True ∧ True ∧ True ∧ (decide (i < ↑l.length) = true → ((0 : Int) ≤ i ∧ i < ↑l.length) ∧ True ∧ (0 : Int) ≤ IntKind.u64.wrap i ∧ True ∧ ((bits BinOp.and IntKind.u64 (c / (2 : Int) ^ min (IntKind.u64.wrap i).toNat IntKind.u64.bits) (1 : Int) == (1 : Int)) = true → True ∧ True ∧ (l.getD i.toNat (⟨0, 0⟩ : Filter)).open_ = thrS l c i.toNat ∧ True) ∧ ((bits BinOp.and IntKind.u64 (c / (2 : Int) ^ min (IntKind.u64.wrap i).toNat IntKind.u64.bits) (1 : Int) == (1 : Int)) = false → True ∧ True ∧ (l.getD i.toNat (⟨0, 0⟩ : Filter)).close = thrS l c i.toNat ∧ True)) ∧ (decide (i < ↑l.length) = false → (0 : Int) ≤ IntKind.u64.wrap i ∧ True ∧ ((bits BinOp.and IntKind.u64 (c / (2 : Int) ^ min (IntKind.u64.wrap i).toNat IntKind.u64.bits) (1 : Int) == (1 : Int)) = true → True ∧ True ∧ (1 : Int) = thrS l c i.toNat ∧ True) ∧ ((bits BinOp.and IntKind.u64 (c / (2 : Int) ^ min (IntKind.u64.wrap i).toNat IntKind.u64.bits) (1 : Int) == (1 : Int)) = false → True ∧ True ∧ (1 : Int) = thrS l c i.toNat ∧ True))) = vc27 l c i := by kernel_rfl
theorem vc18_eq (l : List Filter) : (True ∧ True ∧ (decide (↑l.length > (64 : Int)) = true → True ∧ True ∧ (9 : Int) = validS l ∧ True) ∧ (decide (↑l.length > (64 : Int)) = false → True ∧ (I18 l (0 : Int) ∧ ((l.length = l.length ∧ ∀ (i : Nat), i < l.length → (l.getD i (⟨0, 0⟩ : Filter)).close = (l.getD i (⟨0, 0⟩ : Filter)).close ∧ (l.getD i (⟨0, 0⟩ : Filter)).open_ = (l.getD i (⟨0, 0⟩ : Filter)).open_ ∧ True) ∧ True ∧ True ∧ True ∧ True ∧ (l.length = l.length ∧ ∀ (i : Nat), i < l.length → (l.getD i (⟨0, 0⟩ : Filter)).close = (l.getD i (⟨0, 0⟩ : Filter)).close ∧ (l.getD i (⟨0, 0⟩ : Filter)).open_ = (l.getD i (⟨0, 0⟩ : Filter)).open_ ∧ True) ∧ Eq (α := Int) ↑l.length ↑l.length ∧ True ∧ (l.length = l.length ∧ ∀ (i : Nat), i < l.length → (l.getD i (⟨0, 0⟩ : Filter)).close = (l.getD i (⟨0, 0⟩ : Filter)).close ∧ (l.getD i (⟨0, 0⟩ : Filter)).open_ = (l.getD i (⟨0, 0⟩ : Filter)).open_ ∧ True) ∧ Eq (α := Int) ↑l.length ↑l.length ∧ (0 : Int) = (0 : Int) ∧ True ∧ True ∧ True ∧ True ∧ True ∧ True ∧ True ∧ True ∧ True ∧ True ∧ True ∧ True ∧ True ∧ True ∧ True ∧ True ∧ True ∧ True ∧ True ∧ True ∧ True ∧ True ∧ True) ∧ True) ∧ ∀ (n : Int), I18 l n → True ∧ (decide (n < ↑l.length) = true → ((0 : Int) ≤ n ∧ n < ↑l.length) ∧ True ∧ (decide ((l.getD n.toNat (⟨0, 0⟩ : Filter)).close < (1 : Int)) = true → True ∧ True ∧ True ∧ (5 : Int) = validS l ∧ True) ∧ (decide ((l.getD n.toNat (⟨0, 0⟩ : Filter)).close < (1 : Int)) = false → (decide ((l.getD n.toNat (⟨0, 0⟩ : Filter)).close > (63 : Int)) = true → True ∧ True ∧ True ∧ (5 : Int) = validS l ∧ True) ∧ (decide ((l.getD n.toNat (⟨0, 0⟩ : Filter)).close > (63 : Int)) = false → (decide ((l.getD n.toNat (⟨0, 0⟩ : Filter)).open_ < (1 : Int)) = true → True ∧ True ∧ True ∧ (5 : Int) = validS l ∧ True) ∧ (decide ((l.getD n.toNat (⟨0, 0⟩ : Filter)).open_ < (1 : Int)) = false → True ∧ (decide ((l.getD n.toNat (⟨0, 0⟩ : Filter)).open_ > (63 : Int)) = true → True ∧ True ∧ (5 : Int) = validS l ∧ True) ∧ (decide ((l.getD n.toNat (⟨0, 0⟩ : Filter)).open_ > (63 : Int)) = false → True ∧ I18 l (IntKind.i64.wrap (n + (1 : Int))) ∧ LT.lt (α := Nat) ((fun (x : Port.unit.T) (x_1 : Int) => (↑l.length - x_1).toNat) () (IntKind.i64.wrap (n + (1 : Int)))) ((fun (x : Port.unit.T) (x_1 : Int) => (↑l.length - x_1).toNat) () n) ∧ ((l.length = l.length ∧ ∀ (i : Nat), i < l.length → (l.getD i (⟨0, 0⟩ : Filter)).close = (l.getD i (⟨0, 0⟩ : Filter)).close ∧ (l.getD i (⟨0, 0⟩ : Filter)).open_ = (l.getD i (⟨0, 0⟩ : Filter)).open_ ∧ True) ∧ True ∧ True ∧ True ∧ True ∧ (l.length = l.length ∧ ∀ (i : Nat), i < l.length → (l.getD i (⟨0, 0⟩ : Filter)).close = (l.getD i (⟨0, 0⟩ : Filter)).close ∧ (l.getD i (⟨0, 0⟩ : Filter)).open_ = (l.getD i (⟨0, 0⟩ : Filter)).open_ ∧ True) ∧ Eq (α := Int) ↑l.length ↑l.length ∧ True ∧ (l.length = l.length ∧ ∀ (i : Nat), i < l.length → (l.getD i (⟨0, 0⟩ : Filter)).close = (l.getD i (⟨0, 0⟩ : Filter)).close ∧ (l.getD i (⟨0, 0⟩ : Filter)).open_ = (l.getD i (⟨0, 0⟩ : Filter)).open_ ∧ True) ∧ Eq (α := Int) ↑l.length ↑l.length ∧ IntKind.i64.wrap (n + (1 : Int)) = IntKind.i64.wrap (n + (1 : Int)) ∧ True ∧ True ∧ True ∧ True ∧ True ∧ True ∧ True ∧ True ∧ True ∧ True ∧ True ∧ True ∧ True ∧ True ∧ True ∧ True ∧ True ∧ True ∧ True ∧ True ∧ True ∧ True ∧ True) ∧ True))))) ∧ (decide (n < ↑l.length) = false → True ∧ True ∧ (0 : Int) = validS l ∧ True))) = vc18 l := by kernel_rfl
theorem vc19_eq (l : List Filter) : (True ∧ True ∧ (decide (↑l.length > (64 : Int)) = true → True ∧ True ∧ (9 : Int) = validS l ∧ True) ∧ (decide (↑l.length > (64 : Int)) = false → True ∧ (I18 l (0 : Int) ∧ ((l.length = l.length ∧ ∀ (i : Nat), i < l.length → (l.getD i (⟨0, 0⟩ : Filter)).close = (l.getD i (⟨0, 0⟩ : Filter)).close ∧ (l.getD i (⟨0, 0⟩ : Filter)).open_ = (l.getD i (⟨0, 0⟩ : Filter)).open_ ∧ True) ∧ True ∧ True ∧ (0 : Int) = (0 : Int) ∧ (l.length = l.length ∧ ∀ (i : Nat), i < l.length → (l.getD i (⟨0, 0⟩ : Filter)).close = (l.getD i (⟨0, 0⟩ : Filter)).close ∧ (l.getD i (⟨0, 0⟩ : Filter)).open_ = (l.getD i (⟨0, 0⟩ : Filter)).open_ ∧ True) ∧ Eq (α := Int) ↑l.length ↑l.length ∧ True ∧ True ∧ True ∧ True ∧ True ∧ True ∧ True ∧ True ∧ True ∧ True ∧ True ∧ True ∧ True ∧ True ∧ True ∧ True ∧ True ∧ True ∧ True ∧ True ∧ True ∧ True ∧ True ∧ True ∧ True ∧ True ∧ True ∧ True ∧ True ∧ True ∧ True ∧ True ∧ True ∧ True ∧ True ∧ True ∧ True ∧ True) ∧ True) ∧ ∀ (n : Int), I18 l n → True ∧ (decide (n < ↑l.length) = true → ((0 : Int) ≤ n ∧ n < ↑l.length) ∧ (decide ((l.getD n.toNat (⟨0, 0⟩ : Filter)).close < (1 : Int)) = true → True ∧ True ∧ True ∧ (5 : Int) = validS l ∧ True) ∧ (decide ((l.getD n.toNat (⟨0, 0⟩ : Filter)).close < (1 : Int)) = false → ((0 : Int) ≤ n ∧ n < ↑l.length) ∧ (decide ((l.getD n.toNat (⟨0, 0⟩ : Filter)).close > (63 : Int)) = true → True ∧ True ∧ True ∧ (5 : Int) = validS l ∧ True) ∧ (decide ((l.getD n.toNat (⟨0, 0⟩ : Filter)).close > (63 : Int)) = false → ((0 : Int) ≤ n ∧ n < ↑l.length) ∧ (decide ((l.getD n.toNat (⟨0, 0⟩ : Filter)).open_ < (1 : Int)) = true → True ∧ True ∧ True ∧ (5 : Int) = validS l ∧ True) ∧ (decide ((l.getD n.toNat (⟨0, 0⟩ : Filter)).open_ < (1 : Int)) = false → ((0 : Int) ≤ n ∧ n < ↑l.length) ∧ True ∧ (decide ((l.getD n.toNat (⟨0, 0⟩ : Filter)).open_ > (63 : Int)) = true → True ∧ True ∧ (5 : Int) = validS l ∧ True) ∧ (decide ((l.getD n.toNat (⟨0, 0⟩ : Filter)).open_ > (63 : Int)) = false → True ∧ I18 l (IntKind.i64.wrap (n + (1 : Int))) ∧ LT.lt (α := Nat) ((fun (x : Port.unit.T) (x_1 : Int) => (↑l.length - x_1).toNat) () (IntKind.i64.wrap (n + (1 : Int)))) ((fun (x : Port.unit.T) (x_1 : Int) => (↑l.length - x_1).toNat) () n) ∧ ((l.length = l.length ∧ ∀ (i : Nat), i < l.length → (l.getD i (⟨0, 0⟩ : Filter)).close = (l.getD i (⟨0, 0⟩ : Filter)).close ∧ (l.getD i (⟨0, 0⟩ : Filter)).open_ = (l.getD i (⟨0, 0⟩ : Filter)).open_ ∧ True) ∧ True ∧ True ∧ IntKind.i64.wrap (n + (1 : Int)) = IntKind.i64.wrap (n + (1 : Int)) ∧ (l.length = l.length ∧ ∀ (i : Nat), i < l.length → (l.getD i (⟨0, 0⟩ : Filter)).close = (l.getD i (⟨0, 0⟩ : Filter)).close ∧ (l.getD i (⟨0, 0⟩ : Filter)).open_ = (l.getD i (⟨0, 0⟩ : Filter)).open_ ∧ True) ∧ Eq (α := Int) ↑l.length ↑l.length ∧ True ∧ True ∧ True ∧ True ∧ True ∧ True ∧ True ∧ True ∧ True ∧ True ∧ True ∧ True ∧ True ∧ True ∧ True ∧ True ∧ True ∧ True ∧ True ∧ True ∧ True ∧ True ∧ True ∧ True ∧ True ∧ True ∧ True ∧ True ∧ True ∧ True ∧ True ∧ True ∧ True ∧ True ∧ True ∧ True ∧ True ∧ True) ∧ True))))) ∧ (decide (n < ↑l.length) = false → True ∧ True ∧ (0 : Int) = validS l ∧ True))) = vc19 l := by kernel_rfl
theorem vc20_eq (l : List Filter) (s : D) : (True ∧ True ∧ ((∀ (i : Nat), i < l.length → true = true ∧ True) ∧ True) ∧ True ∧ ((validS (rrF l) != (0 : Int)) = true → True ∧ True ∧ isSS l s = false ∧ True) ∧ ((validS (rrF l) != (0 : Int)) = false → True ∧ (I20 l s (0 : Int) ∧ ((l.length = l.length ∧ ∀ (i : Nat), i < l.length → (l.getD i (⟨0, 0⟩ : Filter)).close = (l.getD i (⟨0, 0⟩ : Filter)).close ∧ (l.getD i (⟨0, 0⟩ : Filter)).open_ = (l.getD i (⟨0, 0⟩ : Filter)).open_ ∧ True) ∧ (s.closed = s.closed ∧ ((64 : Nat) = (64 : Nat) ∧ (1 : Nat) = (1 : Nat) ∧ ∀ (i : Nat), i < (64 : Nat) → s.count.getD i (0 : Int) = s.count.getD i (0 : Int) ∧ True) ∧ True) ∧ True ∧ True ∧ True ∧ True ∧ True ∧ (l.length = l.length ∧ ∀ (i : Nat), i < l.length → (l.getD i (⟨0, 0⟩ : Filter)).close = (l.getD i (⟨0, 0⟩ : Filter)).close ∧ (l.getD i (⟨0, 0⟩ : Filter)).open_ = (l.getD i (⟨0, 0⟩ : Filter)).open_ ∧ True) ∧ validS (rrF l) = validS (rrF l) ∧ True ∧ True ∧ (((64 : Nat) = (64 : Nat) ∧ (0 : Nat) + (1 : Nat) = (0 : Nat) + (1 : Nat) ∧ ∀ (i : Nat), i < (64 : Nat) → s.count.getD i (0 : Int) = s.count.getD i (0 : Int) ∧ True) ∧ True) ∧ (0 : Int) = (0 : Int) ∧ True ∧ True ∧ True ∧ True ∧ True ∧ True ∧ True ∧ True ∧ True ∧ True ∧ True ∧ True ∧ True ∧ True ∧ True ∧ True) ∧ ((if false = true then [] else List.map Seg.shape [Seg.s (SV.int IntKind.u64 s.closed), Seg.a (64 : Nat) (1 : Nat) fun j => [SV.int IntKind.i64 (s.count.getD j (0 : Int))]]) = if false = true then [] else List.map Seg.shape [Seg.s (SV.int IntKind.u64 s.closed), Seg.a (64 : Nat) (1 : Nat) fun j => [SV.int IntKind.i64 (s.count.getD j (0 : Int))]]) ∧ (s.closed = s.closed ∧ ((64 : Nat) = (64 : Nat) ∧ (1 : Nat) = (1 : Nat) ∧ ∀ (i : Nat), i < (64 : Nat) → s.count.getD i (0 : Int) = s.count.getD i (0 : Int) ∧ True) ∧ True) ∧ True) ∧ ∀ (n : Int), I20 l s n → True ∧ (decide (n < (64 : Int)) = true → ((0 : Int) ≤ n ∧ n < ↑(64 : Nat)) ∧ True ∧ (decide (s.count.getD n.toNat (0 : Int) < (0 : Int)) = true → True ∧ True ∧ True ∧ isSS l s = false ∧ True) ∧ (decide (s.count.getD n.toNat (0 : Int) < (0 : Int)) = false → True ∧ True ∧ True ∧ (((∀ (i : Nat), i < l.length → true = true ∧ True) ∧ True ∧ True) ∧ ((0 : Int) ≤ s.closed ∧ s.closed < (18446744073709551616 : Int)) ∧ (0 : Int) ≤ n ∧ n < (64 : Int)) ∧ True ∧ (decide (s.count.getD n.toNat (0 : Int) ≥ thrS (rrF l) s.closed n.toNat) = true → True ∧ True ∧ isSS l s = false ∧ True) ∧ (decide (s.count.getD n.toNat (0 : Int) ≥ thrS (rrF l) s.closed n.toNat) = false → True ∧ I20 l s (IntKind.i64.wrap (n + (1 : Int))) ∧ LT.lt (α := Nat) ((fun (x : Port.unit.T) (x_1 : Int) => ((64 : Int) - x_1).toNat) () (IntKind.i64.wrap (n + (1 : Int)))) ((fun (x : Port.unit.T) (x_1 : Int) => ((64 : Int) - x_1).toNat) () n) ∧ ((l.length = l.length ∧ ∀ (i : Nat), i < l.length → (l.getD i (⟨0, 0⟩ : Filter)).close = (l.getD i (⟨0, 0⟩ : Filter)).close ∧ (l.getD i (⟨0, 0⟩ : Filter)).open_ = (l.getD i (⟨0, 0⟩ : Filter)).open_ ∧ True) ∧ (s.closed = s.closed ∧ ((64 : Nat) = (64 : Nat) ∧ (1 : Nat) = (1 : Nat) ∧ ∀ (i : Nat), i < (64 : Nat) → s.count.getD i (0 : Int) = s.count.getD i (0 : Int) ∧ True) ∧ True) ∧ True ∧ True ∧ True ∧ True ∧ True ∧ (l.length = l.length ∧ ∀ (i : Nat), i < l.length → (l.getD i (⟨0, 0⟩ : Filter)).close = (l.getD i (⟨0, 0⟩ : Filter)).close ∧ (l.getD i (⟨0, 0⟩ : Filter)).open_ = (l.getD i (⟨0, 0⟩ : Filter)).open_ ∧ True) ∧ validS (rrF l) = validS (rrF l) ∧ True ∧ True ∧ (((64 : Nat) = (64 : Nat) ∧ (0 : Nat) + (1 : Nat) = (0 : Nat) + (1 : Nat) ∧ ∀ (i : Nat), i < (64 : Nat) → s.count.getD i (0 : Int) = s.count.getD i (0 : Int) ∧ True) ∧ True) ∧ IntKind.i64.wrap (n + (1 : Int)) = IntKind.i64.wrap (n + (1 : Int)) ∧ True ∧ True ∧ True ∧ True ∧ True ∧ True ∧ True ∧ True ∧ True ∧ True ∧ True ∧ True ∧ True ∧ True ∧ True ∧ True) ∧ ((if false = true then [] else List.map Seg.shape [Seg.s (SV.int IntKind.u64 s.closed), Seg.a (64 : Nat) (1 : Nat) fun j => [SV.int IntKind.i64 (s.count.getD j (0 : Int))]]) = if false = true then [] else List.map Seg.shape [Seg.s (SV.int IntKind.u64 s.closed), Seg.a (64 : Nat) (1 : Nat) fun j => [SV.int IntKind.i64 (s.count.getD j (0 : Int))]]) ∧ (s.closed = s.closed ∧ ((64 : Nat) = (64 : Nat) ∧ (1 : Nat) = (1 : Nat) ∧ ∀ (i : Nat), i < (64 : Nat) → s.count.getD i (0 : Int) = s.count.getD i (0 : Int) ∧ True) ∧ True) ∧ True))) ∧ (decide (n < (64 : Int)) = false → True ∧ True ∧ isSS l s = true ∧ True))) = vc20 l s := by kernel_rfl
theorem vc21_eq (l : List Filter) (s : D) : (True ∧ True ∧ ((∀ (i : Nat), i < l.length → true = true ∧ True) ∧ True) ∧ True ∧ ((validS (rrF l) != (0 : Int)) = true → True ∧ True ∧ isSS l s = false ∧ True) ∧ ((validS (rrF l) != (0 : Int)) = false → True ∧ (I20 l s (0 : Int) ∧ ((l.length = l.length ∧ ∀ (i : Nat), i < l.length → (l.getD i (⟨0, 0⟩ : Filter)).close = (l.getD i (⟨0, 0⟩ : Filter)).close ∧ (l.getD i (⟨0, 0⟩ : Filter)).open_ = (l.getD i (⟨0, 0⟩ : Filter)).open_ ∧ True) ∧ (s.closed = s.closed ∧ ((64 : Nat) = (64 : Nat) ∧ (1 : Nat) = (1 : Nat) ∧ ∀ (i : Nat), i < (64 : Nat) → s.count.getD i (0 : Int) = s.count.getD i (0 : Int) ∧ True) ∧ True) ∧ True ∧ True ∧ True ∧ (0 : Int) = (0 : Int) ∧ (l.length = l.length ∧ ∀ (i : Nat), i < l.length → (l.getD i (⟨0, 0⟩ : Filter)).close = (l.getD i (⟨0, 0⟩ : Filter)).close ∧ (l.getD i (⟨0, 0⟩ : Filter)).open_ = (l.getD i (⟨0, 0⟩ : Filter)).open_ ∧ True) ∧ validS (rrF l) = validS (rrF l) ∧ True ∧ True ∧ True ∧ True ∧ True ∧ True ∧ True ∧ True ∧ True ∧ True ∧ True ∧ True ∧ True ∧ True ∧ True ∧ True ∧ True ∧ True ∧ True ∧ True ∧ True ∧ True ∧ True) ∧ ((if false = true then [] else List.map Seg.shape [Seg.s (SV.int IntKind.u64 s.closed), Seg.a (64 : Nat) (1 : Nat) fun j => [SV.int IntKind.i64 (s.count.getD j (0 : Int))]]) = if false = true then [] else List.map Seg.shape [Seg.s (SV.int IntKind.u64 s.closed), Seg.a (64 : Nat) (1 : Nat) fun j => [SV.int IntKind.i64 (s.count.getD j (0 : Int))]]) ∧ (s.closed = s.closed ∧ ((64 : Nat) = (64 : Nat) ∧ (1 : Nat) = (1 : Nat) ∧ ∀ (i : Nat), i < (64 : Nat) → s.count.getD i (0 : Int) = s.count.getD i (0 : Int) ∧ True) ∧ True) ∧ True) ∧ ∀ (n : Int), I20 l s n → True ∧ (decide (n < (64 : Int)) = true → ((0 : Int) ≤ n ∧ n < ↑(64 : Nat)) ∧ n.toNat < (64 : Nat) ∧ (decide (s.count.getD n.toNat (0 : Int) < (0 : Int)) = true → IsT true ∧ True ∧ True ∧ isSS l s = false ∧ True) ∧ (decide (s.count.getD n.toNat (0 : Int) < (0 : Int)) = false → ((0 : Int) ≤ n ∧ n < ↑(64 : Nat)) ∧ n.toNat < (64 : Nat) ∧ True ∧ True ∧ True ∧ (((∀ (i : Nat), i < l.length → true = true ∧ True) ∧ True ∧ True) ∧ ((0 : Int) ≤ s.closed ∧ s.closed < (18446744073709551616 : Int)) ∧ (0 : Int) ≤ n ∧ n < (64 : Int)) ∧ IsT true ∧ (decide (s.count.getD n.toNat (0 : Int) ≥ thrS (rrF l) s.closed n.toNat) = true → True ∧ True ∧ isSS l s = false ∧ True) ∧ (decide (s.count.getD n.toNat (0 : Int) ≥ thrS (rrF l) s.closed n.toNat) = false → True ∧ I20 l s (IntKind.i64.wrap (n + (1 : Int))) ∧ LT.lt (α := Nat) ((fun (x : Port.unit.T) (x_1 : Int) => ((64 : Int) - x_1).toNat) () (IntKind.i64.wrap (n + (1 : Int)))) ((fun (x : Port.unit.T) (x_1 : Int) => ((64 : Int) - x_1).toNat) () n) ∧ ((l.length = l.length ∧ ∀ (i : Nat), i < l.length → (l.getD i (⟨0, 0⟩ : Filter)).close = (l.getD i (⟨0, 0⟩ : Filter)).close ∧ (l.getD i (⟨0, 0⟩ : Filter)).open_ = (l.getD i (⟨0, 0⟩ : Filter)).open_ ∧ True) ∧ (s.closed = s.closed ∧ ((64 : Nat) = (64 : Nat) ∧ (1 : Nat) = (1 : Nat) ∧ ∀ (i : Nat), i < (64 : Nat) → s.count.getD i (0 : Int) = s.count.getD i (0 : Int) ∧ True) ∧ True) ∧ True ∧ True ∧ True ∧ IntKind.i64.wrap (n + (1 : Int)) = IntKind.i64.wrap (n + (1 : Int)) ∧ (l.length = l.length ∧ ∀ (i : Nat), i < l.length → (l.getD i (⟨0, 0⟩ : Filter)).close = (l.getD i (⟨0, 0⟩ : Filter)).close ∧ (l.getD i (⟨0, 0⟩ : Filter)).open_ = (l.getD i (⟨0, 0⟩ : Filter)).open_ ∧ True) ∧ validS (rrF l) = validS (rrF l) ∧ True ∧ True ∧ True ∧ True ∧ True ∧ True ∧ True ∧ True ∧ True ∧ True ∧ True ∧ True ∧ True ∧ True ∧ True ∧ True ∧ True ∧ True ∧ True ∧ True ∧ True ∧ True ∧ True) ∧ ((if false = true then [] else List.map Seg.shape [Seg.s (SV.int IntKind.u64 s.closed), Seg.a (64 : Nat) (1 : Nat) fun j => [SV.int IntKind.i64 (s.count.getD j (0 : Int))]]) = if false = true then [] else List.map Seg.shape [Seg.s (SV.int IntKind.u64 s.closed), Seg.a (64 : Nat) (1 : Nat) fun j => [SV.int IntKind.i64 (s.count.getD j (0 : Int))]]) ∧ (s.closed = s.closed ∧ ((64 : Nat) = (64 : Nat) ∧ (1 : Nat) = (1 : Nat) ∧ ∀ (i : Nat), i < (64 : Nat) → s.count.getD i (0 : Int) = s.count.getD i (0 : Int) ∧ True) ∧ True) ∧ True))) ∧ (decide (n < (64 : Int)) = false → True ∧ True ∧ isSS l s = true ∧ True))) = vc21 l s := by kernel_rfl
theorem W_id {n : Int} (h1 : -9223372036854775808 ≤ n) (h2 : n < 9223372036854775808) : W n = n := by
  unfold W
  simp [IntKind.wrap, IntKind.bits, IntKind.signed]; omega
theorem W_def (n : Int) : IntKind.i64.wrap n = W n := by unfold W; rfl
theorem rrF_eq (l : List Filter) : rrF l = l := rowL_enc (C := codF) rfl
theorem take_succ' {α : Type} {l : List α} {d : α} {n : Nat} (h : n < l.length) : l.take (n + 1) = l.take n ++ [l.getD n d] := by
  rw [List.take_succ_eq_append_getElem h]; simp [List.getD_eq_getElem?_getD, h]
theorem toNat_succ {n : Int} (h : 0 ≤ n) : (n + 1).toNat = n.toNat + 1 := by omega
theorem b64 : IntKind.u64.bits = 64 := rfl
theorem getD_lt {α : Type} {l : List α} {i : Nat} (h : i < l.length) (d e : α) : l.getD i d = l.getD i e := by
  simp [List.getD_eq_getElem?_getD, h]
theorem getD_ge {α : Type} {l : List α} {i : Nat} (h : l.length ≤ i) (d : α) : l.getD i d = d := by
  simp [List.getD_eq_getElem?_getD, h]
theorem thr_core {l : List Filter} {c i : Int} (hc : isU c) (hi : 0 ≤ i) (hi2 : i < 64) : (i < ↑l.length → (bits BinOp.and IntKind.u64 (c / 2 ^ min i.toNat IntKind.u64.bits) 1 = 1 → (l.getD i.toNat ⟨0, 0⟩).open_ = thrS l c i.toNat) ∧ (¬bits BinOp.and IntKind.u64 (c / 2 ^ min i.toNat IntKind.u64.bits) 1 = 1 → (l.getD i.toNat ⟨0, 0⟩).close = thrS l c i.toNat)) ∧ (↑l.length ≤ i → 1 = thrS l c i.toNat) := by
  rw [b64, Nat.min_eq_left (by omega), get_bit hc (by omega)]
  refine ⟨fun h => ?_, fun h => ?_⟩
  · rw [getD_lt (l := l) (i := i.toNat) (by omega) ⟨0, 0⟩ ⟨1, 1⟩]
    cases hb : bit c i.toNat <;> simp [thrS, hb]
  · simp only [thrS]; rw [getD_ge (by omega)]; simp
theorem k29 : TabOK Try.prog T29 := fn_tabA (T := []) trivial hm Try.func29 (by kernel_rfl) (by kernel_rfl) sFUI.ok (by kernel_rfl) (fun _ => []) fun a hp => by
  have h : vc29 a.1 a.2.1 a.2.2 := by
    rw [← vc29_eq]
    simp [rrF_eq, -List.getD_eq_getElem?_getD, W_def]
    obtain ⟨h1, h2⟩ := thr_core (l := a.1) hp.1 hp.2.1 hp.2.2
    exact ⟨fun h => ⟨⟨hp.2.1, h⟩, hp.2.1, h1 h⟩, fun h => ⟨hp.2.1, h2 h⟩⟩
  exact h
theorem k27 : TabOK Try.prog T27 := fn_tabA k29 hm Try.func27 (by kernel_rfl) (by kernel_rfl) sFUI.ok (by kernel_rfl) (fun _ => []) fun a hp => by
  have h : vc27 a.1 a.2.1 a.2.2 := by
    rw [← vc27_eq]
    obtain ⟨h1, h2⟩ := thr_core (l := a.1) hp.1 hp.2.1 hp.2.2
    have e : IntKind.u64.wrap a.2.2 = a.2.2 := wrap_u64 ⟨by omega, by omega⟩
    simp [rrF_eq, -List.getD_eq_getElem?_getD, W_def, e]
    exact ⟨fun h => ⟨⟨hp.2.1, h⟩, hp.2.1, h1 h⟩, fun h => ⟨hp.2.1, h2 h⟩⟩
  exact h
theorem valid_bad {l : List Filter} (hl : ¬ 64 < l.length) {i : Nat} (hi : i < l.length) (h : okF (l.getD i ⟨0, 0⟩) = false) : 5 = validS l := by
  have : l.all okF = false := by
    rw [List.all_eq_false]
    exact ⟨l[i], List.getElem_mem hi, by simpa [List.getD_eq_getElem?_getD, hi] using h⟩
  simp [validS, hl, this]
theorem okF_iff {f : Filter} : okF f = true ↔ 1 ≤ f.close ∧ f.close ≤ 63 ∧ 1 ≤ f.open_ ∧ f.open_ ≤ 63 := by simp only [okF, decide_eq_true_eq]
theorem okF_no {f : Filter} (h : ¬ (1 ≤ f.close ∧ f.close ≤ 63 ∧ 1 ≤ f.open_ ∧ f.open_ ≤ 63)) : okF f = false := by simp only [okF, decide_eq_false_iff_not]; exact h
theorem k18 : TabOK Try.prog T18 := fn_tabA k27 hm Try.func18 (by kernel_rfl) (by kernel_rfl) sF.ok (by kernel_rfl) (fun a => A18 10 a) fun a hp => by
  have h : vc18 a := by
    rw [← vc18_eq]
    by_cases hl : 64 < a.length
    · simp [validS, hl, -List.getD_eq_getElem?_getD]; omega
    have hl2 : ¬ (64 : Int) < a.length := by omega
    simp [rrF_eq, -List.getD_eq_getElem?_getD, W_def, hl2]
    refine ⟨by simp [I18], fun n hI => ?_⟩
    simp only [I18] at hI ⊢
    obtain ⟨i1, i2, i3⟩ := hI
    refine ⟨fun h1 => ?_, fun h1 => ?_⟩
    · have hn : n.toNat < a.length := by omega
      refine ⟨⟨i1, h1⟩, fun h2 => valid_bad hl hn (okF_no (by omega)), fun h2 => ⟨fun h3 => valid_bad hl hn (okF_no (by omega)), fun h3 => ⟨fun h4 => valid_bad hl hn (okF_no (by omega)), fun h4 => ⟨fun h5 => valid_bad hl hn (okF_no (by omega)), fun h5 => ⟨⟨?_, ?_, ?_⟩, ?_⟩⟩⟩⟩⟩
      · rw [W_id (by omega) (by omega)]; omega
      · rw [W_id (by omega) (by omega)]; omega
      · rw [W_id (by omega) (by omega), toNat_succ i1, take_succ' (d := ⟨0, 0⟩) hn, List.all_append, i3]
        simp [okF_iff, -List.getD_eq_getElem?_getD]; omega
      · rw [W_id (by omega) (by omega)]; omega
    · rw [List.take_of_length_le (by omega)] at i3
      simp [validS, hl, i3]
  exact h
theorem k19 : TabOK Try.prog T19 := fn_tabA k18 hm Try.func19 (by kernel_rfl) (by kernel_rfl) sF.ok (by kernel_rfl) (fun a => A18 3 a) fun a hp => by
  have h : vc19 a := by
    rw [← vc19_eq]
    by_cases hl : 64 < a.length
    · simp [validS, hl, -List.getD_eq_getElem?_getD]; omega
    have hl2 : ¬ (64 : Int) < a.length := by omega
    simp [rrF_eq, -List.getD_eq_getElem?_getD, W_def, hl2]
    refine ⟨by simp [I18], fun n hI => ?_⟩
    simp only [I18] at hI ⊢
    obtain ⟨i1, i2, i3⟩ := hI
    refine ⟨fun h1 => ?_, fun h1 => ?_⟩
    · have hn : n.toNat < a.length := by omega
      refine ⟨⟨i1, h1⟩, fun h2 => valid_bad hl hn (okF_no (by omega)), fun h2 => ⟨⟨i1, h1⟩, fun h3 => valid_bad hl hn (okF_no (by omega)), fun h3 => ⟨⟨i1, h1⟩, fun h4 => valid_bad hl hn (okF_no (by omega)), fun h4 => ⟨⟨i1, h1⟩, fun h5 => valid_bad hl hn (okF_no (by omega)), fun h5 => ⟨⟨?_, ?_, ?_⟩, ?_⟩⟩⟩⟩⟩
      · rw [W_id (by omega) (by omega)]; omega
      · rw [W_id (by omega) (by omega)]; omega
      · rw [W_id (by omega) (by omega), toNat_succ i1, take_succ' (d := ⟨0, 0⟩) hn, List.all_append, i3]
        simp [okF_iff, -List.getD_eq_getElem?_getD]; omega
      · rw [W_id (by omega) (by omega)]; omega
    · rw [List.take_of_length_le (by omega)] at i3
      simp [validS, hl, i3]
  exact h
theorem is_bad {l : List Filter} {d : D} {i : Nat} (hi : i < 64) (h : okC l d i = false) : isSS l d = false := by
  have : (List.range 64).all (okC l d) = false := by
    rw [List.all_eq_false]; exact ⟨i, by simpa using hi, by simp [h]⟩
  simp only [isSS, this, Bool.and_false]
theorem okC_iff {l : List Filter} {d : D} {i : Nat} : okC l d i = true ↔ 0 ≤ d.count.getD i 0 ∧ d.count.getD i 0 < thrS l d.closed i := by simp only [okC, cnt, decide_eq_true_eq]
theorem okC_no {l : List Filter} {d : D} {i : Nat} (h : ¬ (0 ≤ d.count.getD i 0 ∧ d.count.getD i 0 < thrS l d.closed i)) : okC l d i = false := by simp only [okC, cnt, decide_eq_false_iff_not]; exact h
theorem isSS_iff {l : List Filter} {d : D} : isSS l d = true ↔ validS l = 0 ∧ ∀ i, i < 64 → okC l d i = true := by
  simp only [isSS, Bool.and_eq_true, decide_eq_true_eq, List.all_eq_true, List.mem_range]
theorem I20_next {l : List Filter} {d : D} {n : Int} (hI : I20 l d n) (h1 : n < 64) (h2 : 0 ≤ d.count.getD n.toNat 0) (h3 : d.count.getD n.toNat 0 < thrS l d.closed n.toNat) : I20 l d (n + 1) := by
  simp only [I20] at hI ⊢
  refine ⟨by omega, by omega, fun j hj => ?_⟩
  by_cases e : j = n.toNat
  · subst e; exact okC_iff.2 ⟨h2, h3⟩
  · exact hI.2.2 j (by omega)
theorem k20 : TabOK Try.prog T20 := fn_tabA k19 hm Try.func20 (by kernel_rfl) (by kernel_rfl) sFD.ok (by kernel_rfl) (fun a => A20 12 a.1 a.2) fun a hp => by
  have h : vc20 a.1 a.2 := by
    rw [← vc20_eq]
    simp [rrF_eq, -List.getD_eq_getElem?_getD, W_def]
    refine ⟨fun h => ?_, fun hv => ⟨?_, fun n hI => ⟨fun h1 => ?_, fun h1 => ?_⟩⟩⟩
    · simp [isSS, h]
    · simp only [I20]; exact ⟨by omega, by omega, fun j hj => by omega⟩
    · have hI' := hI
      simp only [I20] at hI'
      refine ⟨⟨hI'.1, h1⟩, fun h2 => is_bad (i := n.toNat) (by omega) (okC_no (by omega)), fun h2 => ⟨⟨hp, hI'.1, h1⟩, fun h3 => is_bad (i := n.toNat) (by omega) (okC_no (by omega)), fun h3 => ?_⟩⟩
      rw [W_id (by omega) (by omega)]
      exact ⟨I20_next hI h1 h2 h3, by omega⟩
    · simp only [I20] at hI
      exact isSS_iff.2 ⟨hv, fun i hi => hI.2.2 i (by omega)⟩
  exact h
theorem k21 : TabOK Try.prog T21 := fn_tabA k20 hm Try.func21 (by kernel_rfl) (by kernel_rfl) sFD.ok (by kernel_rfl) (fun a => A20 5 a.1 a.2) fun a hp => by
  have h : vc21 a.1 a.2 := by
    rw [← vc21_eq]
    simp [rrF_eq, -List.getD_eq_getElem?_getD, W_def]
    refine ⟨fun h => ?_, fun hv => ⟨?_, fun n hI => ⟨fun h1 => ?_, fun h1 => ?_⟩⟩⟩
    · simp [isSS, h]
    · simp only [I20]; exact ⟨by omega, by omega, fun j hj => by omega⟩
    · have hI' := hI
      simp only [I20] at hI'
      refine ⟨⟨hI'.1, h1⟩, h1, fun h2 => is_bad (i := n.toNat) (by omega) (okC_no (by omega)), fun h2 => ⟨⟨hI'.1, h1⟩, h1, ⟨hp, hI'.1, h1⟩, fun h3 => is_bad (i := n.toNat) (by omega) (okC_no (by omega)), fun h3 => ?_⟩⟩
      rw [W_id (by omega) (by omega)]
      exact ⟨I20_next hI h1 h2 h3, by omega⟩
    · simp only [I20] at hI
      exact isSS_iff.2 ⟨hv, fun i hi => hI.2.2 i (by omega)⟩
  exact h
end Go.Proofs.De
