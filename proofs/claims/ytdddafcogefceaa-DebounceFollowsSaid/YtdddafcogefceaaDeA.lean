import Derived.Test.YtdddafcogefceaaEngZ
import Derived.Test.YtdddafcogefceaaRows
namespace Go.Proofs.De
set_option linter.unusedVariables false
set_option linter.unusedSimpArgs false
open Go Go.Sx Go.Proofs
set_option maxRecDepth 100000
structure Filter where
  close : Int
  open_ : Int
deriving DecidableEq
def codF : Cod Filter where
  n := 2
  enc a := [.int .i64 a.close, .int .i64 a.open_]
  dec := fun | [x0, x1] => oB (rI .i64 x0) fun a0 => oB (rI .i64 x1) fun a1 => some ⟨a0, a1⟩ | _ => none
  dft := ⟨0, 0⟩
  good _ := True
  fine _ := trivial
  ok l a h _ := by
    split at h
    case h_2 => cases h
    obtain ⟨a0, h0, h⟩ := oB_ok h
    obtain ⟨a1, h1, h⟩ := oB_ok h
    cases h
    exact ⟨rI_leZ h0, rI_leZ h1, trivial⟩
  self _ := rfl
  len _ := rfl
  mrg c x y a b h k := by
    split at h
    case h_2 => cases h
    split at k
    case h_2 => cases k
    obtain ⟨a0, h0, h⟩ := oB_ok h
    obtain ⟨b0, k0, k⟩ := oB_ok k
    obtain ⟨a1, h1, h⟩ := oB_ok h
    obtain ⟨b1, k1, k⟩ := oB_ok k
    cases h; cases k
    simp only [mergeL, rI_mrg h0 k0, rI_mrg h1 k1, oB_some]
    cases c <;> rfl
@[simp] theorem codF_n : codF.n = 2 := rfl
@[simp] theorem codF_dft : codF.dft = ⟨0, 0⟩ := rfl
@[simp] theorem codF_enc (a : Filter) : codF.enc a = [.int .i64 a.close, .int .i64 a.open_] := rfl
@[simp] theorem codF_push {l : List Filter} {v0 : Int} {v1 : Int} : rowL codF (l.length + 1) (fun j => mergeL (decide (j < l.length)) [.int .i64 (l.getD j ⟨0, 0⟩).close, .int .i64 (l.getD j ⟨0, 0⟩).open_] [.int .i64 v0, .int .i64 v1]) = l ++ [⟨v0, v1⟩] := rowL_push (C := codF) rfl
theorem codF_set {n i : Nat} {l : List Filter} {v0 : Int} {v1 : Int} (hn : n = l.length) : rowL codF n (fun j => mergeL (decide (j = i)) [.int .i64 v0, .int .i64 v1] [.int .i64 (l.getD j ⟨0, 0⟩).close, .int .i64 (l.getD j ⟨0, 0⟩).open_]) = l.set i ⟨v0, v1⟩ := rowL_set (C := codF) hn rfl
@[simp] theorem codF_self {l : List Filter} : rowL codF l.length (fun j => [.int .i64 (l.getD j ⟨0, 0⟩).close, .int .i64 (l.getD j ⟨0, 0⟩).open_]) = l := rowL_enc (C := codF) rfl
theorem codF_z : ∀ l a, codF.dec l = some a → codF.good l → leZ0L l (codF.enc a) := by
  intro l a h _
  simp only [codF] at h ⊢
  split at h
  case h_2 => cases h
  obtain ⟨a0, h0, h⟩ := oB_ok h
  obtain ⟨a1, h1, h⟩ := oB_ok h
  cases h
  exact ⟨rI_leZ0 h0, rI_leZ0 h1, trivial⟩
@[simp] theorem codF_const {n : Nat} {v0 : Int} {v1 : Int} : rowL codF n (fun _ => [.int .i64 v0, .int .i64 v1]) = List.replicate n ⟨v0, v1⟩ := rowL_const (C := codF) rfl
theorem codF_sub {n o : Nat} {l : List Filter} (hn : o + n ≤ l.length) : rowL codF n (fun i => [.int .i64 (l.getD (o + i) ⟨0, 0⟩).close, .int .i64 (l.getD (o + i) ⟨0, 0⟩).open_]) = (l.drop o).take n := rowL_sub (C := codF) hn
theorem codF_take {n : Nat} {l : List Filter} (hn : n ≤ l.length) : rowL codF n (fun j => [.int .i64 (l.getD j ⟨0, 0⟩).close, .int .i64 (l.getD j ⟨0, 0⟩).open_]) = l.take n := rowL_take (C := codF) hn
structure Edge where
  sw : Int
  closed : Bool
deriving DecidableEq
def codE : Cod Edge where
  n := 2
  enc a := [.int .i64 a.sw, .bool a.closed]
  dec := fun | [x0, x1] => oB (rI .i64 x0) fun a0 => oB (rB x1) fun a1 => some ⟨a0, a1⟩ | _ => none
  dft := ⟨0, false⟩
  good _ := True
  fine _ := trivial
  ok l a h _ := by
    split at h
    case h_2 => cases h
    obtain ⟨a0, h0, h⟩ := oB_ok h
    obtain ⟨a1, h1, h⟩ := oB_ok h
    cases h
    exact ⟨rI_leZ h0, (rB_ok h1).1, trivial⟩
  self _ := rfl
  len _ := rfl
  mrg c x y a b h k := by
    split at h
    case h_2 => cases h
    split at k
    case h_2 => cases k
    obtain ⟨a0, h0, h⟩ := oB_ok h
    obtain ⟨b0, k0, k⟩ := oB_ok k
    obtain ⟨a1, h1, h⟩ := oB_ok h
    obtain ⟨b1, k1, k⟩ := oB_ok k
    cases h; cases k
    simp only [mergeL, rI_mrg h0 k0, rB_mrg h1 k1, oB_some]
    cases c <;> rfl
@[simp] theorem codE_n : codE.n = 2 := rfl
@[simp] theorem codE_dft : codE.dft = ⟨0, false⟩ := rfl
@[simp] theorem codE_enc (a : Edge) : codE.enc a = [.int .i64 a.sw, .bool a.closed] := rfl
@[simp] theorem codE_push {l : List Edge} {v0 : Int} {v1 : Bool} : rowL codE (l.length + 1) (fun j => mergeL (decide (j < l.length)) [.int .i64 (l.getD j ⟨0, false⟩).sw, .bool (l.getD j ⟨0, false⟩).closed] [.int .i64 v0, .bool v1]) = l ++ [⟨v0, v1⟩] := rowL_push (C := codE) rfl
theorem codE_set {n i : Nat} {l : List Edge} {v0 : Int} {v1 : Bool} (hn : n = l.length) : rowL codE n (fun j => mergeL (decide (j = i)) [.int .i64 v0, .bool v1] [.int .i64 (l.getD j ⟨0, false⟩).sw, .bool (l.getD j ⟨0, false⟩).closed]) = l.set i ⟨v0, v1⟩ := rowL_set (C := codE) hn rfl
@[simp] theorem codE_self {l : List Edge} : rowL codE l.length (fun j => [.int .i64 (l.getD j ⟨0, false⟩).sw, .bool (l.getD j ⟨0, false⟩).closed]) = l := rowL_enc (C := codE) rfl
theorem codE_z : ∀ l a, codE.dec l = some a → codE.good l → leZ0L l (codE.enc a) := by
  intro l a h _
  simp only [codE] at h ⊢
  split at h
  case h_2 => cases h
  obtain ⟨a0, h0, h⟩ := oB_ok h
  obtain ⟨a1, h1, h⟩ := oB_ok h
  cases h
  exact ⟨rI_leZ0 h0, rB_leZ0 h1, trivial⟩
@[simp] theorem codE_const {n : Nat} {v0 : Int} {v1 : Bool} : rowL codE n (fun _ => [.int .i64 v0, .bool v1]) = List.replicate n ⟨v0, v1⟩ := rowL_const (C := codE) rfl
theorem codE_sub {n o : Nat} {l : List Edge} (hn : o + n ≤ l.length) : rowL codE n (fun i => [.int .i64 (l.getD (o + i) ⟨0, false⟩).sw, .bool (l.getD (o + i) ⟨0, false⟩).closed]) = (l.drop o).take n := rowL_sub (C := codE) hn
theorem codE_take {n : Nat} {l : List Edge} (hn : n ≤ l.length) : rowL codE n (fun j => [.int .i64 (l.getD j ⟨0, false⟩).sw, .bool (l.getD j ⟨0, false⟩).closed]) = l.take n := rowL_take (C := codE) hn
structure D where
  closed : Int
  count : List Int
deriving DecidableEq
abbrev iS (n : Int) : SV := .int .i64 n
def encD (d : D) : SV := .agg [.s (.int .u64 d.closed), .a 64 1 fun j => [.int .i64 (d.count.getD j 0)]]
def argD : Arg D where
  enc := encD
  dec x := match x with
    | .agg [.s x, .a n es f] => (match Nat.beq n 64 && Nat.beq es 1 with
      | true => oB (rI .u64 x) fun c => some (rowP (codI .i64) 64 f, ⟨c, rowL (codI .i64) 64 f⟩)
      | false => none)
    | _ => none
  ok x p a h hp := by
    split at h
    case h_2 => cases h
    split at h
    case h_2 => cases h
    rename_i f _ he
    simp only [Bool.and_eq_true, Nat.beq_eq] at he
    obtain ⟨rfl, rfl⟩ := he
    obtain ⟨c, hc, h⟩ := oB_ok h
    cases h
    refine ⟨leZ_leE (rI_leZ hc), ⟨rfl, rfl, fun i hi => ?_⟩, trivial⟩
    obtain ⟨b, hb⟩ := Option.isSome_iff_exists.1 (hp i hi).1
    have := (codI .i64).ok _ _ hb (hp i hi).2
    have e : (rowL (codI .i64) 64 f).getD i 0 = b := by rw [rowL_get hi, hb]; rfl
    show leEL nokp nonl (f i) [.int .i64 ((rowL (codI .i64) 64 f).getD i 0)]
    rw [e]
    exact leZL_leEL this
def codEs := codR codE codE_z
def sFUI := (Sig.cons (argR codF) (Sig.cons (argI .u64) (Sig.one (argI .i64))))
def sF := Sig.one (argR codF)
def sFD := (Sig.cons (argR codF) (Sig.one argD))
def sFDU := (Sig.cons (argR codF) (Sig.cons argD (Sig.one (argI .u64))))
def sFDR := (Sig.cons (argR codF) (Sig.cons argD (Sig.one (argR (codI .u64)))))
def sEE := (Sig.cons (argR codE) (Sig.one (argR codE)))
def sEsEs := (Sig.cons (argR codEs) (Sig.one (argR codEs)))
def sFR := (Sig.cons (argR codF) (Sig.one (argR (codI .u64))))
theorem hm : Try.prog.follows .mixedOrders = true := by kernel_rfl
end Go.Proofs.De
