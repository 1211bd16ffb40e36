import Derived.Test.YtkpgbnchidjapaaNvB
namespace Go.Proofs.Nv
set_option linter.unusedVariables false
set_option linter.unusedSimpArgs false
open Go Go.Sx Go.Proofs
set_option maxRecDepth 100000
set_option maxHeartbeats 4000000
-- SAME: sm
-- ABBR: IntKind.i64.wrap ==> W
def cmB (d : Bs) : Bs := 0 :: (bys (hdI d) ++ d)
def cmE (m d : Bs) (b : Int) : Int := if curE m = 0 then (if 1024 < d.length then 9 else if b < d.length + 8 then 61 else 0) else curE m
def cmAt (m d : Bs) (b : Int) (j : Nat) : UInt8 := if (d.length : Int) + 8 ≤ b ∧ (j : Int) = (1 - curI m) * 1031 then UInt8.ofNat (nxt (by' (slS m (curI m)) 0)).toNat
  else if (1 - curI m) * 1031 ≤ j ∧ (j : Int) < (1 - curI m) * 1031 + min (7 + (d.length : Int)) (max b 0) then (cmB d).getD ((j : Int) - (1 - curI m) * 1031).toNat 0 else m.getD j 0
def cmS (m d : Bs) (b : Int) : Bs := if cmE m d b = 0 ∨ cmE m d b = 61 then (List.range 2062).map (cmAt m d b) else []
/-- The memory as numbers, k bytes being written. -/
def wrI (m d : Bs) (k : Int) (l : List Int) : Prop := l.length = m.length ∧ ∀ j : Nat, j < m.length → l.getD j 0 = if (1 - curI m) * 1031 ≤ j ∧ (j : Int) < (1 - curI m) * 1031 + k then by' (cmB d) ((j : Int) - (1 - curI m) * 1031).toNat else by' m j
attribute [irreducible] cmB cmE cmAt cmS wrI
noncomputable def I16 : Inl := fun f => match Nat.beq f 29 with
  | true => some Try.f29
  | false => match Nat.beq f 30 with
    | true => some Try.f30
    | false => none
def sSSI := Sig.cons argS sSI
def cCm : Ctr := ctr sSSI.dec (fun a => a.2.1.length ≤ 1000000 ∧ -9223372036854775808 ≤ a.2.2 ∧ a.2.2 < 9223372036854775808) (fun a => .tup [.str (cmS a.1 a.2.1 a.2.2), iS (cmE a.1 a.2.1 a.2.2)])
abbrev XC := Int × Int × List Int × Unit
def J16 (m d : Bs) (b : Int) (x : XC) : Prop := 0 ≤ x.1 ∧ x.1 ≤ 6 + d.length ∧ x.2.1 = max b 0 - 1 - x.1 ∧ wrI m d (min (1 + x.1) (max b 0)) x.2.2.1
attribute [irreducible] J16
noncomputable def A16 (m d : Bs) (b : Int) : List Ann := [⟨.unit, .list [.int .i64 (.tm 45), .int .i64 (.sg 0 0), .arrL (codI .u8) m.length 1 0, .fogT [41]], fun _ (x : XC) => J16 m d b x, fun _ (x : XC) => (6 + (d.length : Int) - x.1).toNat⟩]
noncomputable def T16 : List (Nat × Ctr) := (16, cCm) :: T22
noncomputable def vc16 (m d : Bs) (b : Int) : Prop := callVJ Try.prog (tab T22) I16 Try.f16 (codeOf Try.f16) (A16 m d b) [.str m, .str d, iS b] (.tup [.str (cmS m d b), iS (cmE m d b)])
theorem vc16_eq (m d : Bs) (b : Int) : (True ∧ (True ∧ True) ∧ ((curE m != (0 : Int)) = true → True ∧ True ∧ (Array.toList #[] = cmS m d b ∧ curE m = cmE m d b ∧ True) ∧ True) ∧ ((curE m != (0 : Int))
    = false → (decide (↑(List.length d) > (1024 : Int)) = true → True ∧ True ∧ (Array.toList #[] = cmS m d b ∧ (9 : Int) = cmE m d b ∧ True) ∧ True) ∧ (decide (↑(List.length
    d) > (1024 : Int)) = false → True ∧ (decide ((if (0 : Int) > b then (0 : Int) else b) > (0 : Int)) = true → ((0 : Int) ≤ W (W (W ((1 : Int) - curI m) * (1031 : Int))
    + (0 : Int)) ∧ W (W (W ((1 : Int) - curI m) * (1031 : Int)) + (0 : Int)) < ↑(List.length m)) ∧ (0 : Nat) + (W (W (W ((1 : Int) - curI m) * (1031 : Int)) + (0 : Int))).toNat
    < List.length m ∧ True ∧ True ∧ True ∧ True ∧ (True ∧ List.length d ≤ (1000000 : Nat)) ∧ True ∧ (0 : Int) ≤ (8 : Int) ∧ (0 : Int) ≤ (8 : Int) ∧ (0 : Int) ≤ (8 :
    Int) ∧ True ∧ (sm ((0 : Nat)) ∧ sm ((6 : Nat)) ∧ (6 : Nat) + List.length d ≤ (140737488355328 : Nat) ∧ ((6 : Nat) + List.length d) * (1 : Nat) ≤ (140737488355328
    : Nat)) ∧ (J16 m d b ((0 : Int), W ((if (0 : Int) > b then (0 : Int) else b) - (1 : Int)), rowL (codI IntKind.u8) (List.length m) fun i' => mergeL (decide (i' =
    (0 : Nat) + (W (W (W ((1 : Int) - curI m) * (1031 : Int)) + (0 : Int))).toNat)) (setL (byteSV m ((0 : Nat) + (W (W (W ((1 : Int) - curI m) * (1031 : Int)) + (0 :
    Int))).toNat)) (0 : Nat) [SV.int IntKind.u8 (0 : Int)]) (byteSV m i'), ()) ∧ (m = m ∧ d = d ∧ b = b ∧ True ∧ True ∧ True ∧ Eq (α := List UInt8) (Array.toList #[])
    (Array.toList #[]) ∧ sm ((0 : Int)) ∧ curI m = curI m ∧ curN m = curN m ∧ curD m = curD m ∧ curE m = curE m ∧ True ∧ True ∧ (sm ((29 : Nat)) ∧ True ∧ True ∧ True
    ∧ True ∧ True) ∧ True ∧ True ∧ (curI m = curI m ∧ curN m = curN m ∧ curD m = curD m ∧ curE m = curE m ∧ True) ∧ m = m ∧ (curI m = curI m ∧ curN m = curN m ∧ curD
    m = curD m ∧ curE m = curE m ∧ True) ∧ curI m = curI m ∧ curN m = curN m ∧ curD m = curD m ∧ curE m = curE m ∧ curE m = curE m ∧ True ∧ True ∧ d = d ∧ Eq (α := Int)
    ↑(List.length d) ↑(List.length d) ∧ True ∧ m = m ∧ (sm ((0 : Nat)) ∧ sm (List.length m)) ∧ b = b ∧ (sm (if (0 : Int) > b then (0 : Int) else b)) ∧ curI m = curI
    m ∧ sm (W ((1 : Int) - curI m)) ∧ sm (W (W ((1 : Int) - curI m) * (1031 : Int))) ∧ (sm ((29 : Nat)) ∧ True ∧ True ∧ True ∧ True ∧ True) ∧ (sm ((29 : Nat)) ∧ True
    ∧ True ∧ True ∧ True ∧ True) ∧ True ∧ d = d ∧ True ∧ d = d ∧ (sm ((0 : Nat)) ∧ sm ((6 : Nat) + List.length d)) ∧ Eq (α := Int) ↑((6 : Nat) + List.length d) ↑((6
    : Nat) + List.length d) ∧ sm ((0 : Int)) ∧ True ∧ True ∧ True ∧ True ∧ True ∧ True ∧ True ∧ True ∧ True ∧ True ∧ True ∧ True ∧ True ∧ True ∧ True ∧ True ∧ True ∧
    True ∧ True ∧ True ∧ True ∧ True ∧ True ∧ True) ∧ ((if false = true then [] else List.map Seg.shape [Seg.s (SV.int IntKind.i64 b)]) = if false = true then [] else
    List.map Seg.shape [Seg.s (SV.int IntKind.i64 b)]) ∧ (sm (W ((if (0 : Int) > b then (0 : Int) else b) - (1 : Int))) ∧ True) ∧ ((if true = true then [] else List.map
    Seg.shape [Seg.a (List.length m) (1 : Nat) (byteSV m)]) = if true = true then [] else List.map Seg.shape [Seg.a (List.length m) (1 : Nat) (byteSV m)]) ∧ ((sm (List.length
    m) ∧ (0 : Nat) + (1 : Nat) = (codI IntKind.u8).n ∧ ∀ (i : Nat), i < List.length m → (if decide (i = (0 : Nat) + (W (W (W ((1 : Int) - curI m) * (1031 : Int)) + (0
    : Int))).toNat) = true then (0 : Int) else ↑(List.getD m i (0 : UInt8)).toNat) = (rowL (codI IntKind.u8) (List.length m) fun i' => mergeL (decide (i' = (0 : Nat)
    + (W (W (W ((1 : Int) - curI m) * (1031 : Int)) + (0 : Int))).toNat)) (setL (byteSV m ((0 : Nat) + (W (W (W ((1 : Int) - curI m) * (1031 : Int)) + (0 : Int))).toNat))
    (0 : Nat) [SV.int IntKind.u8 (0 : Int)]) (byteSV m i')).getD i (codI IntKind.u8).dft ∧ True) ∧ True) ∧ ((if false = true then [] else List.map Seg.shape [Seg.s SV.nils])
    = if false = true then [] else List.map Seg.shape [Seg.s SV.nils]) ∧ ((sm ((0 : Nat)) ∧ sm (List.length m)) ∧ True) ∧ ((if false = true then [] else List.map Seg.shape
    [Seg.s (SV.int IntKind.i64 (0 : Int))]) = if false = true then [] else List.map Seg.shape [Seg.s (SV.int IntKind.i64 (0 : Int))]) ∧ (sm (W (W ((1 : Int) - curI m)
    * (1031 : Int))) ∧ True) ∧ ((if true = true then [] else List.map Seg.shape [Seg.a (6 : Nat) (1 : Nat) (if (6 : Nat) = (1 : Nat) then fun x => [SV.int IntKind.u8
    (IntKind.u8.wrap (sumS d / (2 : Int) ^ min (8 : Nat) (64 : Nat)))] else fun i' => mergeL (decide (i' = (5 : Nat))) [SV.int IntKind.u8 (IntKind.u8.wrap (sumS d /
    (2 : Int) ^ min (8 : Nat) (64 : Nat)))] ((if (6 : Nat) = (1 : Nat) then fun x => [SV.int IntKind.u8 (IntKind.u8.wrap (sumS d))] else fun i' => mergeL (decide (i'
    = (4 : Nat))) [SV.int IntKind.u8 (IntKind.u8.wrap (sumS d))] ((if (6 : Nat) = (1 : Nat) then fun x => [SV.int IntKind.u8 (IntKind.u8.wrap ((255 : Int) - IntKind.u8.wrap
    (↑(List.length d) / (2 : Int) ^ min (8 : Nat) (64 : Nat))))] else fun i' => mergeL (decide (i' = (3 : Nat))) [SV.int IntKind.u8 (IntKind.u8.wrap ((255 : Int) - IntKind.u8.wrap
    (↑(List.length d) / (2 : Int) ^ min (8 : Nat) (64 : Nat))))] ((if (6 : Nat) = (1 : Nat) then fun x => [SV.int IntKind.u8 (IntKind.u8.wrap ((255 : Int) - IntKind.u8.wrap
    ↑(List.length d)))] else fun i' => mergeL (decide (i' = (2 : Nat))) [SV.int IntKind.u8 (IntKind.u8.wrap ((255 : Int) - IntKind.u8.wrap ↑(List.length d)))] ((if (6
    : Nat) = (1 : Nat) then fun x => [SV.int IntKind.u8 (IntKind.u8.wrap (↑(List.length d) / (2 : Int) ^ min (8 : Nat) (64 : Nat)))] else fun i' => mergeL (decide (i'
    = (1 : Nat))) [SV.int IntKind.u8 (IntKind.u8.wrap (↑(List.length d) / (2 : Int) ^ min (8 : Nat) (64 : Nat)))] ((if (6 : Nat) = (1 : Nat) then fun x => [SV.int IntKind.u8
    (IntKind.u8.wrap ↑(List.length d))] else fun i' => mergeL (decide (i' = (0 : Nat))) [SV.int IntKind.u8 (IntKind.u8.wrap ↑(List.length d))] [SV.int IntKind.u8 (0
    : Int)]) i')) i')) i')) i')) i'))]) = if true = true then [] else List.map Seg.shape [Seg.a (6 : Nat) (1 : Nat) (if (6 : Nat) = (1 : Nat) then fun x => [SV.int IntKind.u8
    (IntKind.u8.wrap (sumS d / (2 : Int) ^ min (8 : Nat) (64 : Nat)))] else fun i' => mergeL (decide (i' = (5 : Nat))) [SV.int IntKind.u8 (IntKind.u8.wrap (sumS d /
    (2 : Int) ^ min (8 : Nat) (64 : Nat)))] ((if (6 : Nat) = (1 : Nat) then fun x => [SV.int IntKind.u8 (IntKind.u8.wrap (sumS d))] else fun i' => mergeL (decide (i'
    = (4 : Nat))) [SV.int IntKind.u8 (IntKind.u8.wrap (sumS d))] ((if (6 : Nat) = (1 : Nat) then fun x => [SV.int IntKind.u8 (IntKind.u8.wrap ((255 : Int) - IntKind.u8.wrap
    (↑(List.length d) / (2 : Int) ^ min (8 : Nat) (64 : Nat))))] else fun i' => mergeL (decide (i' = (3 : Nat))) [SV.int IntKind.u8 (IntKind.u8.wrap ((255 : Int) - IntKind.u8.wrap
    (↑(List.length d) / (2 : Int) ^ min (8 : Nat) (64 : Nat))))] ((if (6 : Nat) = (1 : Nat) then fun x => [SV.int IntKind.u8 (IntKind.u8.wrap ((255 : Int) - IntKind.u8.wrap
    ↑(List.length d)))] else fun i' => mergeL (decide (i' = (2 : Nat))) [SV.int IntKind.u8 (IntKind.u8.wrap ((255 : Int) - IntKind.u8.wrap ↑(List.length d)))] ((if (6
    : Nat) = (1 : Nat) then fun x => [SV.int IntKind.u8 (IntKind.u8.wrap (↑(List.length d) / (2 : Int) ^ min (8 : Nat) (64 : Nat)))] else fun i' => mergeL (decide (i'
    = (1 : Nat))) [SV.int IntKind.u8 (IntKind.u8.wrap (↑(List.length d) / (2 : Int) ^ min (8 : Nat) (64 : Nat)))] ((if (6 : Nat) = (1 : Nat) then fun x => [SV.int IntKind.u8
    (IntKind.u8.wrap ↑(List.length d))] else fun i' => mergeL (decide (i' = (0 : Nat))) [SV.int IntKind.u8 (IntKind.u8.wrap ↑(List.length d))] [SV.int IntKind.u8 (0
    : Int)]) i')) i')) i')) i')) i'))]) ∧ ((sm ((6 : Nat) + List.length d) ∧ sm ((1 : Nat)) ∧ ∀ (i : Nat), i < (6 : Nat) + List.length d → (sm (if decide (i < (6 : Nat))
    = true then if decide (i = (5 : Nat)) = true then IntKind.u8.wrap (sumS d / (2 : Int) ^ min (8 : Nat) (64 : Nat)) else if decide (i = (4 : Nat)) = true then IntKind.u8.wrap
    (sumS d) else if decide (i = (3 : Nat)) = true then IntKind.u8.wrap ((255 : Int) - IntKind.u8.wrap (↑(List.length d) / (2 : Int) ^ min (8 : Nat) (64 : Nat))) else
    if decide (i = (2 : Nat)) = true then IntKind.u8.wrap ((255 : Int) - IntKind.u8.wrap ↑(List.length d)) else if decide (i = (1 : Nat)) = true then IntKind.u8.wrap
    (↑(List.length d) / (2 : Int) ^ min (8 : Nat) (64 : Nat)) else if decide (i = (0 : Nat)) = true then IntKind.u8.wrap ↑(List.length d) else (0 : Int) else ↑(List.getD
    d (i - (6 : Nat)) (0 : UInt8)).toNat)) ∧ True) ∧ True) ∧ True) ∧ ∀ (n n_1 : Int) (l : List Int), J16 m d b (n, n_1, l, ()) → (decide (n < ↑((6 : Nat) + List.length
    d)) = true → ((0 : Int) ≤ n ∧ n < ↑((6 : Nat) + List.length d)) ∧ (0 : Nat) + n.toNat < (6 : Nat) + List.length d ∧ True ∧ (decide (n_1 > (0 : Int)) = true → ((0
    : Int) ≤ W (W (W ((1 : Int) - curI m) * (1031 : Int)) + W ((1 : Int) + n)) ∧ W (W (W ((1 : Int) - curI m) * (1031 : Int)) + W ((1 : Int) + n)) < ↑(List.length m))
    ∧ (0 : Nat) + (W (W (W ((1 : Int) - curI m) * (1031 : Int)) + W ((1 : Int) + n))).toNat < List.length m ∧ True ∧ True ∧ J16 m d b (W (n + (1 : Int)), W (n_1 - (1
    : Int)), rowL (codI IntKind.u8) (List.length m) fun i' => mergeL (decide (i' = (0 : Nat) + (W (W (W ((1 : Int) - curI m) * (1031 : Int)) + W ((1 : Int) + n))).toNat))
    (setL ((codI IntKind.u8).enc (l.getD ((0 : Nat) + (W (W (W ((1 : Int) - curI m) * (1031 : Int)) + W ((1 : Int) + n))).toNat) (codI IntKind.u8).dft)) (0 : Nat) [SV.int
    IntKind.u8 (if decide ((0 : Nat) + n.toNat < (6 : Nat)) = true then if decide ((0 : Nat) + n.toNat = (5 : Nat)) = true then IntKind.u8.wrap (sumS d / (2 : Int) ^
    min (8 : Nat) (64 : Nat)) else if decide ((0 : Nat) + n.toNat = (4 : Nat)) = true then IntKind.u8.wrap (sumS d) else if decide ((0 : Nat) + n.toNat = (3 : Nat))
    = true then IntKind.u8.wrap ((255 : Int) - IntKind.u8.wrap (↑(List.length d) / (2 : Int) ^ min (8 : Nat) (64 : Nat))) else if decide ((0 : Nat) + n.toNat = (2 :
    Nat)) = true then IntKind.u8.wrap ((255 : Int) - IntKind.u8.wrap ↑(List.length d)) else if decide ((0 : Nat) + n.toNat = (1 : Nat)) = true then IntKind.u8.wrap (↑(List.length
    d) / (2 : Int) ^ min (8 : Nat) (64 : Nat)) else if decide ((0 : Nat) + n.toNat = (0 : Nat)) = true then IntKind.u8.wrap ↑(List.length d) else (0 : Int) else ↑(List.getD
    d ((0 : Nat) + n.toNat - (6 : Nat)) (0 : UInt8)).toNat)]) ((codI IntKind.u8).enc (l.getD i' (codI IntKind.u8).dft)), ()) ∧ ((6 : Int) + ↑(List.length d) - W (n +
    (1 : Int))).toNat < ((6 : Int) + ↑(List.length d) - n).toNat ∧ (m = m ∧ d = d ∧ b = b ∧ True ∧ True ∧ True ∧ Eq (α := List UInt8) (Array.toList #[]) (Array.toList
    #[]) ∧ sm ((0 : Int)) ∧ curI m = curI m ∧ curN m = curN m ∧ curD m = curD m ∧ curE m = curE m ∧ True ∧ True ∧ (sm ((29 : Nat)) ∧ True ∧ True ∧ True ∧ True ∧ True)
    ∧ True ∧ True ∧ (curI m = curI m ∧ curN m = curN m ∧ curD m = curD m ∧ curE m = curE m ∧ True) ∧ m = m ∧ (curI m = curI m ∧ curN m = curN m ∧ curD m = curD m ∧ curE
    m = curE m ∧ True) ∧ curI m = curI m ∧ curN m = curN m ∧ curD m = curD m ∧ curE m = curE m ∧ curE m = curE m ∧ True ∧ True ∧ d = d ∧ Eq (α := Int) ↑(List.length
    d) ↑(List.length d) ∧ True ∧ m = m ∧ (sm ((0 : Nat)) ∧ sm (List.length m)) ∧ b = b ∧ (sm (if (0 : Int) > b then (0 : Int) else b)) ∧ curI m = curI m ∧ sm (W ((1
    : Int) - curI m)) ∧ sm (W (W ((1 : Int) - curI m) * (1031 : Int))) ∧ (sm ((29 : Nat)) ∧ True ∧ True ∧ True ∧ True ∧ True) ∧ (sm ((29 : Nat)) ∧ True ∧ True ∧ True
    ∧ True ∧ True) ∧ True ∧ d = d ∧ True ∧ d = d ∧ (sm ((0 : Nat)) ∧ sm ((6 : Nat) + List.length d)) ∧ Eq (α := Int) ↑((6 : Nat) + List.length d) ↑((6 : Nat) + List.length
    d) ∧ sm (W (n + (1 : Int))) ∧ True ∧ True ∧ True ∧ True ∧ True ∧ True ∧ True ∧ True ∧ True ∧ True ∧ True ∧ True ∧ True ∧ True ∧ True ∧ True ∧ True ∧ True ∧ True
    ∧ True ∧ True ∧ True ∧ True ∧ True) ∧ ((if false = true then [] else List.map Seg.shape [Seg.s (SV.int IntKind.i64 b)]) = if false = true then [] else List.map Seg.shape
    [Seg.s (SV.int IntKind.i64 b)]) ∧ (sm (W (n_1 - (1 : Int))) ∧ True) ∧ ((if true = true then [] else List.map Seg.shape [Seg.a (List.length m) (1 : Nat) (byteSV m)])
    = if true = true then [] else List.map Seg.shape [Seg.a (List.length m) (1 : Nat) (byteSV m)]) ∧ ((sm (List.length m) ∧ (0 : Nat) + (1 : Nat) = (codI IntKind.u8).n
    ∧ ∀ (i : Nat), i < List.length m → (if decide (i = (0 : Nat) + (W (W (W ((1 : Int) - curI m) * (1031 : Int)) + W ((1 : Int) + n))).toNat) = true then if decide ((0
    : Nat) + n.toNat < (6 : Nat)) = true then if decide ((0 : Nat) + n.toNat = (5 : Nat)) = true then IntKind.u8.wrap (sumS d / (2 : Int) ^ min (8 : Nat) (64 : Nat))
    else if decide ((0 : Nat) + n.toNat = (4 : Nat)) = true then IntKind.u8.wrap (sumS d) else if decide ((0 : Nat) + n.toNat = (3 : Nat)) = true then IntKind.u8.wrap
    ((255 : Int) - IntKind.u8.wrap (↑(List.length d) / (2 : Int) ^ min (8 : Nat) (64 : Nat))) else if decide ((0 : Nat) + n.toNat = (2 : Nat)) = true then IntKind.u8.wrap
    ((255 : Int) - IntKind.u8.wrap ↑(List.length d)) else if decide ((0 : Nat) + n.toNat = (1 : Nat)) = true then IntKind.u8.wrap (↑(List.length d) / (2 : Int) ^ min
    (8 : Nat) (64 : Nat)) else if decide ((0 : Nat) + n.toNat = (0 : Nat)) = true then IntKind.u8.wrap ↑(List.length d) else (0 : Int) else ↑(List.getD d ((0 : Nat)
    + n.toNat - (6 : Nat)) (0 : UInt8)).toNat else l.getD i (codI IntKind.u8).dft) = (rowL (codI IntKind.u8) (List.length m) fun i' => mergeL (decide (i' = (0 : Nat)
    + (W (W (W ((1 : Int) - curI m) * (1031 : Int)) + W ((1 : Int) + n))).toNat)) (setL ((codI IntKind.u8).enc (l.getD ((0 : Nat) + (W (W (W ((1 : Int) - curI m) * (1031
    : Int)) + W ((1 : Int) + n))).toNat) (codI IntKind.u8).dft)) (0 : Nat) [SV.int IntKind.u8 (if decide ((0 : Nat) + n.toNat < (6 : Nat)) = true then if decide ((0
    : Nat) + n.toNat = (5 : Nat)) = true then IntKind.u8.wrap (sumS d / (2 : Int) ^ min (8 : Nat) (64 : Nat)) else if decide ((0 : Nat) + n.toNat = (4 : Nat)) = true
    then IntKind.u8.wrap (sumS d) else if decide ((0 : Nat) + n.toNat = (3 : Nat)) = true then IntKind.u8.wrap ((255 : Int) - IntKind.u8.wrap (↑(List.length d) / (2
    : Int) ^ min (8 : Nat) (64 : Nat))) else if decide ((0 : Nat) + n.toNat = (2 : Nat)) = true then IntKind.u8.wrap ((255 : Int) - IntKind.u8.wrap ↑(List.length d))
    else if decide ((0 : Nat) + n.toNat = (1 : Nat)) = true then IntKind.u8.wrap (↑(List.length d) / (2 : Int) ^ min (8 : Nat) (64 : Nat)) else if decide ((0 : Nat)
    + n.toNat = (0 : Nat)) = true then IntKind.u8.wrap ↑(List.length d) else (0 : Int) else ↑(List.getD d ((0 : Nat) + n.toNat - (6 : Nat)) (0 : UInt8)).toNat)]) ((codI
    IntKind.u8).enc (l.getD i' (codI IntKind.u8).dft))).getD i (codI IntKind.u8).dft ∧ True) ∧ True) ∧ ((if false = true then [] else List.map Seg.shape [Seg.s SV.nils])
    = if false = true then [] else List.map Seg.shape [Seg.s SV.nils]) ∧ ((sm ((0 : Nat)) ∧ sm (List.length m)) ∧ True) ∧ ((if false = true then [] else List.map Seg.shape
    [Seg.s (SV.int IntKind.i64 (0 : Int))]) = if false = true then [] else List.map Seg.shape [Seg.s (SV.int IntKind.i64 (0 : Int))]) ∧ (sm (W (W ((1 : Int) - curI m)
    * (1031 : Int))) ∧ True) ∧ ((if true = true then [] else List.map Seg.shape [Seg.a (6 : Nat) (1 : Nat) (if (6 : Nat) = (1 : Nat) then fun x => [SV.int IntKind.u8
    (IntKind.u8.wrap (sumS d / (2 : Int) ^ min (8 : Nat) (64 : Nat)))] else fun i' => mergeL (decide (i' = (5 : Nat))) [SV.int IntKind.u8 (IntKind.u8.wrap (sumS d /
    (2 : Int) ^ min (8 : Nat) (64 : Nat)))] ((if (6 : Nat) = (1 : Nat) then fun x => [SV.int IntKind.u8 (IntKind.u8.wrap (sumS d))] else fun i' => mergeL (decide (i'
    = (4 : Nat))) [SV.int IntKind.u8 (IntKind.u8.wrap (sumS d))] ((if (6 : Nat) = (1 : Nat) then fun x => [SV.int IntKind.u8 (IntKind.u8.wrap ((255 : Int) - IntKind.u8.wrap
    (↑(List.length d) / (2 : Int) ^ min (8 : Nat) (64 : Nat))))] else fun i' => mergeL (decide (i' = (3 : Nat))) [SV.int IntKind.u8 (IntKind.u8.wrap ((255 : Int) - IntKind.u8.wrap
    (↑(List.length d) / (2 : Int) ^ min (8 : Nat) (64 : Nat))))] ((if (6 : Nat) = (1 : Nat) then fun x => [SV.int IntKind.u8 (IntKind.u8.wrap ((255 : Int) - IntKind.u8.wrap
    ↑(List.length d)))] else fun i' => mergeL (decide (i' = (2 : Nat))) [SV.int IntKind.u8 (IntKind.u8.wrap ((255 : Int) - IntKind.u8.wrap ↑(List.length d)))] ((if (6
    : Nat) = (1 : Nat) then fun x => [SV.int IntKind.u8 (IntKind.u8.wrap (↑(List.length d) / (2 : Int) ^ min (8 : Nat) (64 : Nat)))] else fun i' => mergeL (decide (i'
    = (1 : Nat))) [SV.int IntKind.u8 (IntKind.u8.wrap (↑(List.length d) / (2 : Int) ^ min (8 : Nat) (64 : Nat)))] ((if (6 : Nat) = (1 : Nat) then fun x => [SV.int IntKind.u8
    (IntKind.u8.wrap ↑(List.length d))] else fun i' => mergeL (decide (i' = (0 : Nat))) [SV.int IntKind.u8 (IntKind.u8.wrap ↑(List.length d))] [SV.int IntKind.u8 (0
    : Int)]) i')) i')) i')) i')) i'))]) = if true = true then [] else List.map Seg.shape [Seg.a (6 : Nat) (1 : Nat) (if (6 : Nat) = (1 : Nat) then fun x => [SV.int IntKind.u8
    (IntKind.u8.wrap (sumS d / (2 : Int) ^ min (8 : Nat) (64 : Nat)))] else fun i' => mergeL (decide (i' = (5 : Nat))) [SV.int IntKind.u8 (IntKind.u8.wrap (sumS d /
    (2 : Int) ^ min (8 : Nat) (64 : Nat)))] ((if (6 : Nat) = (1 : Nat) then fun x => [SV.int IntKind.u8 (IntKind.u8.wrap (sumS d))] else fun i' => mergeL (decide (i'
    = (4 : Nat))) [SV.int IntKind.u8 (IntKind.u8.wrap (sumS d))] ((if (6 : Nat) = (1 : Nat) then fun x => [SV.int IntKind.u8 (IntKind.u8.wrap ((255 : Int) - IntKind.u8.wrap
    (↑(List.length d) / (2 : Int) ^ min (8 : Nat) (64 : Nat))))] else fun i' => mergeL (decide (i' = (3 : Nat))) [SV.int IntKind.u8 (IntKind.u8.wrap ((255 : Int) - IntKind.u8.wrap
    (↑(List.length d) / (2 : Int) ^ min (8 : Nat) (64 : Nat))))] ((if (6 : Nat) = (1 : Nat) then fun x => [SV.int IntKind.u8 (IntKind.u8.wrap ((255 : Int) - IntKind.u8.wrap
    ↑(List.length d)))] else fun i' => mergeL (decide (i' = (2 : Nat))) [SV.int IntKind.u8 (IntKind.u8.wrap ((255 : Int) - IntKind.u8.wrap ↑(List.length d)))] ((if (6
    : Nat) = (1 : Nat) then fun x => [SV.int IntKind.u8 (IntKind.u8.wrap (↑(List.length d) / (2 : Int) ^ min (8 : Nat) (64 : Nat)))] else fun i' => mergeL (decide (i'
    = (1 : Nat))) [SV.int IntKind.u8 (IntKind.u8.wrap (↑(List.length d) / (2 : Int) ^ min (8 : Nat) (64 : Nat)))] ((if (6 : Nat) = (1 : Nat) then fun x => [SV.int IntKind.u8
    (IntKind.u8.wrap ↑(List.length d))] else fun i' => mergeL (decide (i' = (0 : Nat))) [SV.int IntKind.u8 (IntKind.u8.wrap ↑(List.length d))] [SV.int IntKind.u8 (0
    : Int)]) i')) i')) i')) i')) i'))]) ∧ ((sm ((6 : Nat) + List.length d) ∧ sm ((1 : Nat)) ∧ ∀ (i : Nat), i < (6 : Nat) + List.length d → (sm (if decide (i < (6 : Nat))
    = true then if decide (i = (5 : Nat)) = true then IntKind.u8.wrap (sumS d / (2 : Int) ^ min (8 : Nat) (64 : Nat)) else if decide (i = (4 : Nat)) = true then IntKind.u8.wrap
    (sumS d) else if decide (i = (3 : Nat)) = true then IntKind.u8.wrap ((255 : Int) - IntKind.u8.wrap (↑(List.length d) / (2 : Int) ^ min (8 : Nat) (64 : Nat))) else
    if decide (i = (2 : Nat)) = true then IntKind.u8.wrap ((255 : Int) - IntKind.u8.wrap ↑(List.length d)) else if decide (i = (1 : Nat)) = true then IntKind.u8.wrap
    (↑(List.length d) / (2 : Int) ^ min (8 : Nat) (64 : Nat)) else if decide (i = (0 : Nat)) = true then IntKind.u8.wrap ↑(List.length d) else (0 : Int) else ↑(List.getD
    d (i - (6 : Nat)) (0 : UInt8)).toNat)) ∧ True) ∧ True) ∧ True) ∧ (decide (n_1 > (0 : Int)) = false → True ∧ J16 m d b (W (n + (1 : Int)), W (n_1 - (1 : Int)), rowL
    (codI IntKind.u8) (List.length m) fun j => (codI IntKind.u8).enc (l.getD j (codI IntKind.u8).dft), ()) ∧ ((6 : Int) + ↑(List.length d) - W (n + (1 : Int))).toNat
    < ((6 : Int) + ↑(List.length d) - n).toNat ∧ (m = m ∧ d = d ∧ b = b ∧ True ∧ True ∧ True ∧ Eq (α := List UInt8) (Array.toList #[]) (Array.toList #[]) ∧ sm ((0 :
    Int)) ∧ curI m = curI m ∧ curN m = curN m ∧ curD m = curD m ∧ curE m = curE m ∧ True ∧ True ∧ (sm ((29 : Nat)) ∧ True ∧ True ∧ True ∧ True ∧ True) ∧ True ∧ True
    ∧ (curI m = curI m ∧ curN m = curN m ∧ curD m = curD m ∧ curE m = curE m ∧ True) ∧ m = m ∧ (curI m = curI m ∧ curN m = curN m ∧ curD m = curD m ∧ curE m = curE m
    ∧ True) ∧ curI m = curI m ∧ curN m = curN m ∧ curD m = curD m ∧ curE m = curE m ∧ curE m = curE m ∧ True ∧ True ∧ d = d ∧ Eq (α := Int) ↑(List.length d) ↑(List.length
    d) ∧ True ∧ m = m ∧ (sm ((0 : Nat)) ∧ sm (List.length m)) ∧ b = b ∧ (sm (if (0 : Int) > b then (0 : Int) else b)) ∧ curI m = curI m ∧ sm (W ((1 : Int) - curI m))
    ∧ sm (W (W ((1 : Int) - curI m) * (1031 : Int))) ∧ (sm ((29 : Nat)) ∧ True ∧ True ∧ True ∧ True ∧ True) ∧ (sm ((29 : Nat)) ∧ True ∧ True ∧ True ∧ True ∧ True) ∧
    True ∧ d = d ∧ True ∧ d = d ∧ (sm ((0 : Nat)) ∧ sm ((6 : Nat) + List.length d)) ∧ Eq (α := Int) ↑((6 : Nat) + List.length d) ↑((6 : Nat) + List.length d) ∧ sm (W
    (n + (1 : Int))) ∧ True ∧ True ∧ True ∧ True ∧ True ∧ True ∧ True ∧ True ∧ True ∧ True ∧ True ∧ True ∧ True ∧ True ∧ True ∧ True ∧ True ∧ True ∧ True ∧ True ∧ True
    ∧ True ∧ True ∧ True) ∧ ((if false = true then [] else List.map Seg.shape [Seg.s (SV.int IntKind.i64 b)]) = if false = true then [] else List.map Seg.shape [Seg.s
    (SV.int IntKind.i64 b)]) ∧ (sm (W (n_1 - (1 : Int))) ∧ True) ∧ ((if true = true then [] else List.map Seg.shape [Seg.a (List.length m) (1 : Nat) (byteSV m)]) = if
    true = true then [] else List.map Seg.shape [Seg.a (List.length m) (1 : Nat) (byteSV m)]) ∧ ((sm (List.length m) ∧ sm ((codI IntKind.u8).n) ∧ ∀ (i : Nat), i < List.length
    m → l.getD i (codI IntKind.u8).dft = (rowL (codI IntKind.u8) (List.length m) fun j => (codI IntKind.u8).enc (l.getD j (codI IntKind.u8).dft)).getD i (codI IntKind.u8).dft
    ∧ True) ∧ True) ∧ ((if false = true then [] else List.map Seg.shape [Seg.s SV.nils]) = if false = true then [] else List.map Seg.shape [Seg.s SV.nils]) ∧ ((sm ((0
    : Nat)) ∧ sm (List.length m)) ∧ True) ∧ ((if false = true then [] else List.map Seg.shape [Seg.s (SV.int IntKind.i64 (0 : Int))]) = if false = true then [] else
    List.map Seg.shape [Seg.s (SV.int IntKind.i64 (0 : Int))]) ∧ (sm (W (W ((1 : Int) - curI m) * (1031 : Int))) ∧ True) ∧ ((if true = true then [] else List.map Seg.shape
    [Seg.a (6 : Nat) (1 : Nat) (if (6 : Nat) = (1 : Nat) then fun x => [SV.int IntKind.u8 (IntKind.u8.wrap (sumS d / (2 : Int) ^ min (8 : Nat) (64 : Nat)))] else fun
    i' => mergeL (decide (i' = (5 : Nat))) [SV.int IntKind.u8 (IntKind.u8.wrap (sumS d / (2 : Int) ^ min (8 : Nat) (64 : Nat)))] ((if (6 : Nat) = (1 : Nat) then fun
    x => [SV.int IntKind.u8 (IntKind.u8.wrap (sumS d))] else fun i' => mergeL (decide (i' = (4 : Nat))) [SV.int IntKind.u8 (IntKind.u8.wrap (sumS d))] ((if (6 : Nat)
    = (1 : Nat) then fun x => [SV.int IntKind.u8 (IntKind.u8.wrap ((255 : Int) - IntKind.u8.wrap (↑(List.length d) / (2 : Int) ^ min (8 : Nat) (64 : Nat))))] else fun
    i' => mergeL (decide (i' = (3 : Nat))) [SV.int IntKind.u8 (IntKind.u8.wrap ((255 : Int) - IntKind.u8.wrap (↑(List.length d) / (2 : Int) ^ min (8 : Nat) (64 : Nat))))]
    ((if (6 : Nat) = (1 : Nat) then fun x => [SV.int IntKind.u8 (IntKind.u8.wrap ((255 : Int) - IntKind.u8.wrap ↑(List.length d)))] else fun i' => mergeL (decide (i'
    = (2 : Nat))) [SV.int IntKind.u8 (IntKind.u8.wrap ((255 : Int) - IntKind.u8.wrap ↑(List.length d)))] ((if (6 : Nat) = (1 : Nat) then fun x => [SV.int IntKind.u8
    (IntKind.u8.wrap (↑(List.length d) / (2 : Int) ^ min (8 : Nat) (64 : Nat)))] else fun i' => mergeL (decide (i' = (1 : Nat))) [SV.int IntKind.u8 (IntKind.u8.wrap
    (↑(List.length d) / (2 : Int) ^ min (8 : Nat) (64 : Nat)))] ((if (6 : Nat) = (1 : Nat) then fun x => [SV.int IntKind.u8 (IntKind.u8.wrap ↑(List.length d))] else
    fun i' => mergeL (decide (i' = (0 : Nat))) [SV.int IntKind.u8 (IntKind.u8.wrap ↑(List.length d))] [SV.int IntKind.u8 (0 : Int)]) i')) i')) i')) i')) i'))]) = if
    true = true then [] else List.map Seg.shape [Seg.a (6 : Nat) (1 : Nat) (if (6 : Nat) = (1 : Nat) then fun x => [SV.int IntKind.u8 (IntKind.u8.wrap (sumS d / (2 :
    Int) ^ min (8 : Nat) (64 : Nat)))] else fun i' => mergeL (decide (i' = (5 : Nat))) [SV.int IntKind.u8 (IntKind.u8.wrap (sumS d / (2 : Int) ^ min (8 : Nat) (64 :
    Nat)))] ((if (6 : Nat) = (1 : Nat) then fun x => [SV.int IntKind.u8 (IntKind.u8.wrap (sumS d))] else fun i' => mergeL (decide (i' = (4 : Nat))) [SV.int IntKind.u8
    (IntKind.u8.wrap (sumS d))] ((if (6 : Nat) = (1 : Nat) then fun x => [SV.int IntKind.u8 (IntKind.u8.wrap ((255 : Int) - IntKind.u8.wrap (↑(List.length d) / (2 :
    Int) ^ min (8 : Nat) (64 : Nat))))] else fun i' => mergeL (decide (i' = (3 : Nat))) [SV.int IntKind.u8 (IntKind.u8.wrap ((255 : Int) - IntKind.u8.wrap (↑(List.length
    d) / (2 : Int) ^ min (8 : Nat) (64 : Nat))))] ((if (6 : Nat) = (1 : Nat) then fun x => [SV.int IntKind.u8 (IntKind.u8.wrap ((255 : Int) - IntKind.u8.wrap ↑(List.length
    d)))] else fun i' => mergeL (decide (i' = (2 : Nat))) [SV.int IntKind.u8 (IntKind.u8.wrap ((255 : Int) - IntKind.u8.wrap ↑(List.length d)))] ((if (6 : Nat) = (1
    : Nat) then fun x => [SV.int IntKind.u8 (IntKind.u8.wrap (↑(List.length d) / (2 : Int) ^ min (8 : Nat) (64 : Nat)))] else fun i' => mergeL (decide (i' = (1 : Nat)))
    [SV.int IntKind.u8 (IntKind.u8.wrap (↑(List.length d) / (2 : Int) ^ min (8 : Nat) (64 : Nat)))] ((if (6 : Nat) = (1 : Nat) then fun x => [SV.int IntKind.u8 (IntKind.u8.wrap
    ↑(List.length d))] else fun i' => mergeL (decide (i' = (0 : Nat))) [SV.int IntKind.u8 (IntKind.u8.wrap ↑(List.length d))] [SV.int IntKind.u8 (0 : Int)]) i')) i'))
    i')) i')) i'))]) ∧ ((sm ((6 : Nat) + List.length d) ∧ sm ((1 : Nat)) ∧ ∀ (i : Nat), i < (6 : Nat) + List.length d → (sm (if decide (i < (6 : Nat)) = true then if
    decide (i = (5 : Nat)) = true then IntKind.u8.wrap (sumS d / (2 : Int) ^ min (8 : Nat) (64 : Nat)) else if decide (i = (4 : Nat)) = true then IntKind.u8.wrap (sumS
    d) else if decide (i = (3 : Nat)) = true then IntKind.u8.wrap ((255 : Int) - IntKind.u8.wrap (↑(List.length d) / (2 : Int) ^ min (8 : Nat) (64 : Nat))) else if decide
    (i = (2 : Nat)) = true then IntKind.u8.wrap ((255 : Int) - IntKind.u8.wrap ↑(List.length d)) else if decide (i = (1 : Nat)) = true then IntKind.u8.wrap (↑(List.length
    d) / (2 : Int) ^ min (8 : Nat) (64 : Nat)) else if decide (i = (0 : Nat)) = true then IntKind.u8.wrap ↑(List.length d) else (0 : Int) else ↑(List.getD d (i - (6
    : Nat)) (0 : UInt8)).toNat)) ∧ True) ∧ True) ∧ True)) ∧ (decide (n < ↑((6 : Nat) + List.length d)) = false → ((0 : Int) ≤ W (curI m * (1031 : Int)) ∧ W (curI m *
    (1031 : Int)) < ↑(List.length m)) ∧ True ∧ (True ∧ (0 : Int) ≤ ↑(List.getD m (W (curI m * (1031 : Int))).toNat (0 : UInt8)).toNat ∧ ↑(List.getD m (W (curI m * (1031
    : Int))).toNat (0 : UInt8)).toNat < (256 : Int)) ∧ True ∧ (decide (n_1 > (0 : Int)) = true → ((0 : Int) ≤ W (W (W ((1 : Int) - curI m) * (1031 : Int)) + (0 : Int))
    ∧ W (W (W ((1 : Int) - curI m) * (1031 : Int)) + (0 : Int)) < ↑(List.length m)) ∧ (0 : Nat) + (W (W (W ((1 : Int) - curI m) * (1031 : Int)) + (0 : Int))).toNat <
    List.length m ∧ True ∧ True ∧ (decide (W (n_1 - (1 : Int)) < (0 : Int)) = true → (0 : Nat) + List.length m ≤ List.length m ∧ (∀ (j : Nat), j < List.length m → isByte
    ((fun (i' : Nat) => mergeL (decide (i' = (0 : Nat) + (W (W (W ((1 : Int) - curI m) * (1031 : Int)) + (0 : Int))).toNat)) (setL ((codI IntKind.u8).enc (l.getD ((0
    : Nat) + (W (W (W ((1 : Int) - curI m) * (1031 : Int)) + (0 : Int))).toNat) (codI IntKind.u8).dft)) (0 : Nat) [SV.int IntKind.u8 (nxt ↑(List.getD m (W (curI m *
    (1031 : Int))).toNat (0 : UInt8)).toNat)]) ((codI IntKind.u8).enc (l.getD i' (codI IntKind.u8).dft))) ((0 : Nat) + j)) = true) ∧ True ∧ True ∧ ((bytesOf (List.length
    m) fun i => mergeL (decide ((0 : Nat) + i = (0 : Nat) + (W (W (W ((1 : Int) - curI m) * (1031 : Int)) + (0 : Int))).toNat)) (setL ((codI IntKind.u8).enc (l.getD
    ((0 : Nat) + (W (W (W ((1 : Int) - curI m) * (1031 : Int)) + (0 : Int))).toNat) (codI IntKind.u8).dft)) (0 : Nat) [SV.int IntKind.u8 (nxt ↑(List.getD m (W (curI
    m * (1031 : Int))).toNat (0 : UInt8)).toNat)]) ((codI IntKind.u8).enc (l.getD ((0 : Nat) + i) (codI IntKind.u8).dft))) = cmS m d b ∧ (61 : Int) = cmE m d b ∧ True)
    ∧ True) ∧ (decide (W (n_1 - (1 : Int)) < (0 : Int)) = false → (0 : Nat) + List.length m ≤ List.length m ∧ (∀ (j : Nat), j < List.length m → isByte ((fun (i' : Nat)
    => mergeL (decide (i' = (0 : Nat) + (W (W (W ((1 : Int) - curI m) * (1031 : Int)) + (0 : Int))).toNat)) (setL ((codI IntKind.u8).enc (l.getD ((0 : Nat) + (W (W (W
    ((1 : Int) - curI m) * (1031 : Int)) + (0 : Int))).toNat) (codI IntKind.u8).dft)) (0 : Nat) [SV.int IntKind.u8 (nxt ↑(List.getD m (W (curI m * (1031 : Int))).toNat
    (0 : UInt8)).toNat)]) ((codI IntKind.u8).enc (l.getD i' (codI IntKind.u8).dft))) ((0 : Nat) + j)) = true) ∧ True ∧ True ∧ ((bytesOf (List.length m) fun i => mergeL
    (decide ((0 : Nat) + i = (0 : Nat) + (W (W (W ((1 : Int) - curI m) * (1031 : Int)) + (0 : Int))).toNat)) (setL ((codI IntKind.u8).enc (l.getD ((0 : Nat) + (W (W
    (W ((1 : Int) - curI m) * (1031 : Int)) + (0 : Int))).toNat) (codI IntKind.u8).dft)) (0 : Nat) [SV.int IntKind.u8 (nxt ↑(List.getD m (W (curI m * (1031 : Int))).toNat
    (0 : UInt8)).toNat)]) ((codI IntKind.u8).enc (l.getD ((0 : Nat) + i) (codI IntKind.u8).dft))) = cmS m d b ∧ (0 : Int) = cmE m d b ∧ True) ∧ True)) ∧ (decide (n_1
    > (0 : Int)) = false → True ∧ (decide (W (n_1 - (1 : Int)) < (0 : Int)) = true → (0 : Nat) + List.length m ≤ List.length m ∧ (∀ (j : Nat), j < List.length m → isByte
    ((fun (j : Nat) => (codI IntKind.u8).enc (l.getD j (codI IntKind.u8).dft)) ((0 : Nat) + j)) = true) ∧ True ∧ True ∧ ((bytesOf (List.length m) fun i => (codI IntKind.u8).enc
    (l.getD ((0 : Nat) + i) (codI IntKind.u8).dft)) = cmS m d b ∧ (61 : Int) = cmE m d b ∧ True) ∧ True) ∧ (decide (W (n_1 - (1 : Int)) < (0 : Int)) = false → (0 : Nat)
    + List.length m ≤ List.length m ∧ (∀ (j : Nat), j < List.length m → isByte ((fun (j : Nat) => (codI IntKind.u8).enc (l.getD j (codI IntKind.u8).dft)) ((0 : Nat)
    + j)) = true) ∧ True ∧ True ∧ ((bytesOf (List.length m) fun i => (codI IntKind.u8).enc (l.getD ((0 : Nat) + i) (codI IntKind.u8).dft)) = cmS m d b ∧ (0 : Int) =
    cmE m d b ∧ True) ∧ True)))) ∧ (decide ((if (0 : Int) > b then (0 : Int) else b) > (0 : Int)) = false → True ∧ True ∧ True ∧ (True ∧ List.length d ≤ (1000000 : Nat))
    ∧ True ∧ (0 : Int) ≤ (8 : Int) ∧ (0 : Int) ≤ (8 : Int) ∧ (0 : Int) ≤ (8 : Int) ∧ True ∧ (sm ((0 : Nat)) ∧ sm ((6 : Nat)) ∧ (6 : Nat) + List.length d ≤ (140737488355328
    : Nat) ∧ ((6 : Nat) + List.length d) * (1 : Nat) ≤ (140737488355328 : Nat)) ∧ (J16 m d b ((0 : Int), W ((if (0 : Int) > b then (0 : Int) else b) - (1 : Int)), rowL
    (codI IntKind.u8) (List.length m) (byteSV m), ()) ∧ (m = m ∧ d = d ∧ b = b ∧ True ∧ True ∧ True ∧ Eq (α := List UInt8) (Array.toList #[]) (Array.toList #[]) ∧ sm
    ((0 : Int)) ∧ curI m = curI m ∧ curN m = curN m ∧ curD m = curD m ∧ curE m = curE m ∧ True ∧ True ∧ (sm ((29 : Nat)) ∧ True ∧ True ∧ True ∧ True ∧ True) ∧ True ∧
    True ∧ (curI m = curI m ∧ curN m = curN m ∧ curD m = curD m ∧ curE m = curE m ∧ True) ∧ m = m ∧ (curI m = curI m ∧ curN m = curN m ∧ curD m = curD m ∧ curE m = curE
    m ∧ True) ∧ curI m = curI m ∧ curN m = curN m ∧ curD m = curD m ∧ curE m = curE m ∧ curE m = curE m ∧ True ∧ True ∧ d = d ∧ Eq (α := Int) ↑(List.length d) ↑(List.length
    d) ∧ True ∧ m = m ∧ (sm ((0 : Nat)) ∧ sm (List.length m)) ∧ b = b ∧ (sm (if (0 : Int) > b then (0 : Int) else b)) ∧ curI m = curI m ∧ sm (W ((1 : Int) - curI m))
    ∧ sm (W (W ((1 : Int) - curI m) * (1031 : Int))) ∧ (sm ((29 : Nat)) ∧ True ∧ True ∧ True ∧ True ∧ True) ∧ (sm ((29 : Nat)) ∧ True ∧ True ∧ True ∧ True ∧ True) ∧
    True ∧ d = d ∧ True ∧ d = d ∧ (sm ((0 : Nat)) ∧ sm ((6 : Nat) + List.length d)) ∧ Eq (α := Int) ↑((6 : Nat) + List.length d) ↑((6 : Nat) + List.length d) ∧ sm ((0
    : Int)) ∧ True ∧ True ∧ True ∧ True ∧ True ∧ True ∧ True ∧ True ∧ True ∧ True ∧ True ∧ True ∧ True ∧ True ∧ True ∧ True ∧ True ∧ True ∧ True ∧ True ∧ True ∧ True
    ∧ True ∧ True) ∧ ((if false = true then [] else List.map Seg.shape [Seg.s (SV.int IntKind.i64 b)]) = if false = true then [] else List.map Seg.shape [Seg.s (SV.int
    IntKind.i64 b)]) ∧ (sm (W ((if (0 : Int) > b then (0 : Int) else b) - (1 : Int))) ∧ True) ∧ ((if true = true then [] else List.map Seg.shape [Seg.a (List.length
    m) (1 : Nat) (byteSV m)]) = if true = true then [] else List.map Seg.shape [Seg.a (List.length m) (1 : Nat) (byteSV m)]) ∧ ((sm (List.length m) ∧ (1 : Nat) = (codI
    IntKind.u8).n ∧ ∀ (i : Nat), i < List.length m → ↑(List.getD m i (0 : UInt8)).toNat = (rowL (codI IntKind.u8) (List.length m) (byteSV m)).getD i (codI IntKind.u8).dft
    ∧ True) ∧ True) ∧ ((if false = true then [] else List.map Seg.shape [Seg.s SV.nils]) = if false = true then [] else List.map Seg.shape [Seg.s SV.nils]) ∧ ((sm ((0
    : Nat)) ∧ sm (List.length m)) ∧ True) ∧ ((if false = true then [] else List.map Seg.shape [Seg.s (SV.int IntKind.i64 (0 : Int))]) = if false = true then [] else
    List.map Seg.shape [Seg.s (SV.int IntKind.i64 (0 : Int))]) ∧ (sm (W (W ((1 : Int) - curI m) * (1031 : Int))) ∧ True) ∧ ((if true = true then [] else List.map Seg.shape
    [Seg.a (6 : Nat) (1 : Nat) (if (6 : Nat) = (1 : Nat) then fun x => [SV.int IntKind.u8 (IntKind.u8.wrap (sumS d / (2 : Int) ^ min (8 : Nat) (64 : Nat)))] else fun
    i' => mergeL (decide (i' = (5 : Nat))) [SV.int IntKind.u8 (IntKind.u8.wrap (sumS d / (2 : Int) ^ min (8 : Nat) (64 : Nat)))] ((if (6 : Nat) = (1 : Nat) then fun
    x => [SV.int IntKind.u8 (IntKind.u8.wrap (sumS d))] else fun i' => mergeL (decide (i' = (4 : Nat))) [SV.int IntKind.u8 (IntKind.u8.wrap (sumS d))] ((if (6 : Nat)
    = (1 : Nat) then fun x => [SV.int IntKind.u8 (IntKind.u8.wrap ((255 : Int) - IntKind.u8.wrap (↑(List.length d) / (2 : Int) ^ min (8 : Nat) (64 : Nat))))] else fun
    i' => mergeL (decide (i' = (3 : Nat))) [SV.int IntKind.u8 (IntKind.u8.wrap ((255 : Int) - IntKind.u8.wrap (↑(List.length d) / (2 : Int) ^ min (8 : Nat) (64 : Nat))))]
    ((if (6 : Nat) = (1 : Nat) then fun x => [SV.int IntKind.u8 (IntKind.u8.wrap ((255 : Int) - IntKind.u8.wrap ↑(List.length d)))] else fun i' => mergeL (decide (i'
    = (2 : Nat))) [SV.int IntKind.u8 (IntKind.u8.wrap ((255 : Int) - IntKind.u8.wrap ↑(List.length d)))] ((if (6 : Nat) = (1 : Nat) then fun x => [SV.int IntKind.u8
    (IntKind.u8.wrap (↑(List.length d) / (2 : Int) ^ min (8 : Nat) (64 : Nat)))] else fun i' => mergeL (decide (i' = (1 : Nat))) [SV.int IntKind.u8 (IntKind.u8.wrap
    (↑(List.length d) / (2 : Int) ^ min (8 : Nat) (64 : Nat)))] ((if (6 : Nat) = (1 : Nat) then fun x => [SV.int IntKind.u8 (IntKind.u8.wrap ↑(List.length d))] else
    fun i' => mergeL (decide (i' = (0 : Nat))) [SV.int IntKind.u8 (IntKind.u8.wrap ↑(List.length d))] [SV.int IntKind.u8 (0 : Int)]) i')) i')) i')) i')) i'))]) = if
    true = true then [] else List.map Seg.shape [Seg.a (6 : Nat) (1 : Nat) (if (6 : Nat) = (1 : Nat) then fun x => [SV.int IntKind.u8 (IntKind.u8.wrap (sumS d / (2 :
    Int) ^ min (8 : Nat) (64 : Nat)))] else fun i' => mergeL (decide (i' = (5 : Nat))) [SV.int IntKind.u8 (IntKind.u8.wrap (sumS d / (2 : Int) ^ min (8 : Nat) (64 :
    Nat)))] ((if (6 : Nat) = (1 : Nat) then fun x => [SV.int IntKind.u8 (IntKind.u8.wrap (sumS d))] else fun i' => mergeL (decide (i' = (4 : Nat))) [SV.int IntKind.u8
    (IntKind.u8.wrap (sumS d))] ((if (6 : Nat) = (1 : Nat) then fun x => [SV.int IntKind.u8 (IntKind.u8.wrap ((255 : Int) - IntKind.u8.wrap (↑(List.length d) / (2 :
    Int) ^ min (8 : Nat) (64 : Nat))))] else fun i' => mergeL (decide (i' = (3 : Nat))) [SV.int IntKind.u8 (IntKind.u8.wrap ((255 : Int) - IntKind.u8.wrap (↑(List.length
    d) / (2 : Int) ^ min (8 : Nat) (64 : Nat))))] ((if (6 : Nat) = (1 : Nat) then fun x => [SV.int IntKind.u8 (IntKind.u8.wrap ((255 : Int) - IntKind.u8.wrap ↑(List.length
    d)))] else fun i' => mergeL (decide (i' = (2 : Nat))) [SV.int IntKind.u8 (IntKind.u8.wrap ((255 : Int) - IntKind.u8.wrap ↑(List.length d)))] ((if (6 : Nat) = (1
    : Nat) then fun x => [SV.int IntKind.u8 (IntKind.u8.wrap (↑(List.length d) / (2 : Int) ^ min (8 : Nat) (64 : Nat)))] else fun i' => mergeL (decide (i' = (1 : Nat)))
    [SV.int IntKind.u8 (IntKind.u8.wrap (↑(List.length d) / (2 : Int) ^ min (8 : Nat) (64 : Nat)))] ((if (6 : Nat) = (1 : Nat) then fun x => [SV.int IntKind.u8 (IntKind.u8.wrap
    ↑(List.length d))] else fun i' => mergeL (decide (i' = (0 : Nat))) [SV.int IntKind.u8 (IntKind.u8.wrap ↑(List.length d))] [SV.int IntKind.u8 (0 : Int)]) i')) i'))
    i')) i')) i'))]) ∧ ((sm ((6 : Nat) + List.length d) ∧ sm ((1 : Nat)) ∧ ∀ (i : Nat), i < (6 : Nat) + List.length d → (sm (if decide (i < (6 : Nat)) = true then if
    decide (i = (5 : Nat)) = true then IntKind.u8.wrap (sumS d / (2 : Int) ^ min (8 : Nat) (64 : Nat)) else if decide (i = (4 : Nat)) = true then IntKind.u8.wrap (sumS
    d) else if decide (i = (3 : Nat)) = true then IntKind.u8.wrap ((255 : Int) - IntKind.u8.wrap (↑(List.length d) / (2 : Int) ^ min (8 : Nat) (64 : Nat))) else if decide
    (i = (2 : Nat)) = true then IntKind.u8.wrap ((255 : Int) - IntKind.u8.wrap ↑(List.length d)) else if decide (i = (1 : Nat)) = true then IntKind.u8.wrap (↑(List.length
    d) / (2 : Int) ^ min (8 : Nat) (64 : Nat)) else if decide (i = (0 : Nat)) = true then IntKind.u8.wrap ↑(List.length d) else (0 : Int) else ↑(List.getD d (i - (6
    : Nat)) (0 : UInt8)).toNat)) ∧ True) ∧ True) ∧ True) ∧ ∀ (n n_1 : Int) (l : List Int), J16 m d b (n, n_1, l, ()) → (decide (n < ↑((6 : Nat) + List.length d)) = true
    → ((0 : Int) ≤ n ∧ n < ↑((6 : Nat) + List.length d)) ∧ (0 : Nat) + n.toNat < (6 : Nat) + List.length d ∧ True ∧ (decide (n_1 > (0 : Int)) = true → ((0 : Int) ≤ W
    (W (W ((1 : Int) - curI m) * (1031 : Int)) + W ((1 : Int) + n)) ∧ W (W (W ((1 : Int) - curI m) * (1031 : Int)) + W ((1 : Int) + n)) < ↑(List.length m)) ∧ (0 : Nat)
    + (W (W (W ((1 : Int) - curI m) * (1031 : Int)) + W ((1 : Int) + n))).toNat < List.length m ∧ True ∧ True ∧ J16 m d b (W (n + (1 : Int)), W (n_1 - (1 : Int)), rowL
    (codI IntKind.u8) (List.length m) fun i' => mergeL (decide (i' = (0 : Nat) + (W (W (W ((1 : Int) - curI m) * (1031 : Int)) + W ((1 : Int) + n))).toNat)) (setL ((codI
    IntKind.u8).enc (l.getD ((0 : Nat) + (W (W (W ((1 : Int) - curI m) * (1031 : Int)) + W ((1 : Int) + n))).toNat) (codI IntKind.u8).dft)) (0 : Nat) [SV.int IntKind.u8
    (if decide ((0 : Nat) + n.toNat < (6 : Nat)) = true then if decide ((0 : Nat) + n.toNat = (5 : Nat)) = true then IntKind.u8.wrap (sumS d / (2 : Int) ^ min (8 : Nat)
    (64 : Nat)) else if decide ((0 : Nat) + n.toNat = (4 : Nat)) = true then IntKind.u8.wrap (sumS d) else if decide ((0 : Nat) + n.toNat = (3 : Nat)) = true then IntKind.u8.wrap
    ((255 : Int) - IntKind.u8.wrap (↑(List.length d) / (2 : Int) ^ min (8 : Nat) (64 : Nat))) else if decide ((0 : Nat) + n.toNat = (2 : Nat)) = true then IntKind.u8.wrap
    ((255 : Int) - IntKind.u8.wrap ↑(List.length d)) else if decide ((0 : Nat) + n.toNat = (1 : Nat)) = true then IntKind.u8.wrap (↑(List.length d) / (2 : Int) ^ min
    (8 : Nat) (64 : Nat)) else if decide ((0 : Nat) + n.toNat = (0 : Nat)) = true then IntKind.u8.wrap ↑(List.length d) else (0 : Int) else ↑(List.getD d ((0 : Nat)
    + n.toNat - (6 : Nat)) (0 : UInt8)).toNat)]) ((codI IntKind.u8).enc (l.getD i' (codI IntKind.u8).dft)), ()) ∧ ((6 : Int) + ↑(List.length d) - W (n + (1 : Int))).toNat
    < ((6 : Int) + ↑(List.length d) - n).toNat ∧ (m = m ∧ d = d ∧ b = b ∧ True ∧ True ∧ True ∧ Eq (α := List UInt8) (Array.toList #[]) (Array.toList #[]) ∧ sm ((0 :
    Int)) ∧ curI m = curI m ∧ curN m = curN m ∧ curD m = curD m ∧ curE m = curE m ∧ True ∧ True ∧ (sm ((29 : Nat)) ∧ True ∧ True ∧ True ∧ True ∧ True) ∧ True ∧ True
    ∧ (curI m = curI m ∧ curN m = curN m ∧ curD m = curD m ∧ curE m = curE m ∧ True) ∧ m = m ∧ (curI m = curI m ∧ curN m = curN m ∧ curD m = curD m ∧ curE m = curE m
    ∧ True) ∧ curI m = curI m ∧ curN m = curN m ∧ curD m = curD m ∧ curE m = curE m ∧ curE m = curE m ∧ True ∧ True ∧ d = d ∧ Eq (α := Int) ↑(List.length d) ↑(List.length
    d) ∧ True ∧ m = m ∧ (sm ((0 : Nat)) ∧ sm (List.length m)) ∧ b = b ∧ (sm (if (0 : Int) > b then (0 : Int) else b)) ∧ curI m = curI m ∧ sm (W ((1 : Int) - curI m))
    ∧ sm (W (W ((1 : Int) - curI m) * (1031 : Int))) ∧ (sm ((29 : Nat)) ∧ True ∧ True ∧ True ∧ True ∧ True) ∧ (sm ((29 : Nat)) ∧ True ∧ True ∧ True ∧ True ∧ True) ∧
    True ∧ d = d ∧ True ∧ d = d ∧ (sm ((0 : Nat)) ∧ sm ((6 : Nat) + List.length d)) ∧ Eq (α := Int) ↑((6 : Nat) + List.length d) ↑((6 : Nat) + List.length d) ∧ sm (W
    (n + (1 : Int))) ∧ True ∧ True ∧ True ∧ True ∧ True ∧ True ∧ True ∧ True ∧ True ∧ True ∧ True ∧ True ∧ True ∧ True ∧ True ∧ True ∧ True ∧ True ∧ True ∧ True ∧ True
    ∧ True ∧ True ∧ True) ∧ ((if false = true then [] else List.map Seg.shape [Seg.s (SV.int IntKind.i64 b)]) = if false = true then [] else List.map Seg.shape [Seg.s
    (SV.int IntKind.i64 b)]) ∧ (sm (W (n_1 - (1 : Int))) ∧ True) ∧ ((if true = true then [] else List.map Seg.shape [Seg.a (List.length m) (1 : Nat) (byteSV m)]) = if
    true = true then [] else List.map Seg.shape [Seg.a (List.length m) (1 : Nat) (byteSV m)]) ∧ ((sm (List.length m) ∧ (0 : Nat) + (1 : Nat) = (codI IntKind.u8).n ∧
    ∀ (i : Nat), i < List.length m → (if decide (i = (0 : Nat) + (W (W (W ((1 : Int) - curI m) * (1031 : Int)) + W ((1 : Int) + n))).toNat) = true then if decide ((0
    : Nat) + n.toNat < (6 : Nat)) = true then if decide ((0 : Nat) + n.toNat = (5 : Nat)) = true then IntKind.u8.wrap (sumS d / (2 : Int) ^ min (8 : Nat) (64 : Nat))
    else if decide ((0 : Nat) + n.toNat = (4 : Nat)) = true then IntKind.u8.wrap (sumS d) else if decide ((0 : Nat) + n.toNat = (3 : Nat)) = true then IntKind.u8.wrap
    ((255 : Int) - IntKind.u8.wrap (↑(List.length d) / (2 : Int) ^ min (8 : Nat) (64 : Nat))) else if decide ((0 : Nat) + n.toNat = (2 : Nat)) = true then IntKind.u8.wrap
    ((255 : Int) - IntKind.u8.wrap ↑(List.length d)) else if decide ((0 : Nat) + n.toNat = (1 : Nat)) = true then IntKind.u8.wrap (↑(List.length d) / (2 : Int) ^ min
    (8 : Nat) (64 : Nat)) else if decide ((0 : Nat) + n.toNat = (0 : Nat)) = true then IntKind.u8.wrap ↑(List.length d) else (0 : Int) else ↑(List.getD d ((0 : Nat)
    + n.toNat - (6 : Nat)) (0 : UInt8)).toNat else l.getD i (codI IntKind.u8).dft) = (rowL (codI IntKind.u8) (List.length m) fun i' => mergeL (decide (i' = (0 : Nat)
    + (W (W (W ((1 : Int) - curI m) * (1031 : Int)) + W ((1 : Int) + n))).toNat)) (setL ((codI IntKind.u8).enc (l.getD ((0 : Nat) + (W (W (W ((1 : Int) - curI m) * (1031
    : Int)) + W ((1 : Int) + n))).toNat) (codI IntKind.u8).dft)) (0 : Nat) [SV.int IntKind.u8 (if decide ((0 : Nat) + n.toNat < (6 : Nat)) = true then if decide ((0
    : Nat) + n.toNat = (5 : Nat)) = true then IntKind.u8.wrap (sumS d / (2 : Int) ^ min (8 : Nat) (64 : Nat)) else if decide ((0 : Nat) + n.toNat = (4 : Nat)) = true
    then IntKind.u8.wrap (sumS d) else if decide ((0 : Nat) + n.toNat = (3 : Nat)) = true then IntKind.u8.wrap ((255 : Int) - IntKind.u8.wrap (↑(List.length d) / (2
    : Int) ^ min (8 : Nat) (64 : Nat))) else if decide ((0 : Nat) + n.toNat = (2 : Nat)) = true then IntKind.u8.wrap ((255 : Int) - IntKind.u8.wrap ↑(List.length d))
    else if decide ((0 : Nat) + n.toNat = (1 : Nat)) = true then IntKind.u8.wrap (↑(List.length d) / (2 : Int) ^ min (8 : Nat) (64 : Nat)) else if decide ((0 : Nat)
    + n.toNat = (0 : Nat)) = true then IntKind.u8.wrap ↑(List.length d) else (0 : Int) else ↑(List.getD d ((0 : Nat) + n.toNat - (6 : Nat)) (0 : UInt8)).toNat)]) ((codI
    IntKind.u8).enc (l.getD i' (codI IntKind.u8).dft))).getD i (codI IntKind.u8).dft ∧ True) ∧ True) ∧ ((if false = true then [] else List.map Seg.shape [Seg.s SV.nils])
    = if false = true then [] else List.map Seg.shape [Seg.s SV.nils]) ∧ ((sm ((0 : Nat)) ∧ sm (List.length m)) ∧ True) ∧ ((if false = true then [] else List.map Seg.shape
    [Seg.s (SV.int IntKind.i64 (0 : Int))]) = if false = true then [] else List.map Seg.shape [Seg.s (SV.int IntKind.i64 (0 : Int))]) ∧ (sm (W (W ((1 : Int) - curI m)
    * (1031 : Int))) ∧ True) ∧ ((if true = true then [] else List.map Seg.shape [Seg.a (6 : Nat) (1 : Nat) (if (6 : Nat) = (1 : Nat) then fun x => [SV.int IntKind.u8
    (IntKind.u8.wrap (sumS d / (2 : Int) ^ min (8 : Nat) (64 : Nat)))] else fun i' => mergeL (decide (i' = (5 : Nat))) [SV.int IntKind.u8 (IntKind.u8.wrap (sumS d /
    (2 : Int) ^ min (8 : Nat) (64 : Nat)))] ((if (6 : Nat) = (1 : Nat) then fun x => [SV.int IntKind.u8 (IntKind.u8.wrap (sumS d))] else fun i' => mergeL (decide (i'
    = (4 : Nat))) [SV.int IntKind.u8 (IntKind.u8.wrap (sumS d))] ((if (6 : Nat) = (1 : Nat) then fun x => [SV.int IntKind.u8 (IntKind.u8.wrap ((255 : Int) - IntKind.u8.wrap
    (↑(List.length d) / (2 : Int) ^ min (8 : Nat) (64 : Nat))))] else fun i' => mergeL (decide (i' = (3 : Nat))) [SV.int IntKind.u8 (IntKind.u8.wrap ((255 : Int) - IntKind.u8.wrap
    (↑(List.length d) / (2 : Int) ^ min (8 : Nat) (64 : Nat))))] ((if (6 : Nat) = (1 : Nat) then fun x => [SV.int IntKind.u8 (IntKind.u8.wrap ((255 : Int) - IntKind.u8.wrap
    ↑(List.length d)))] else fun i' => mergeL (decide (i' = (2 : Nat))) [SV.int IntKind.u8 (IntKind.u8.wrap ((255 : Int) - IntKind.u8.wrap ↑(List.length d)))] ((if (6
    : Nat) = (1 : Nat) then fun x => [SV.int IntKind.u8 (IntKind.u8.wrap (↑(List.length d) / (2 : Int) ^ min (8 : Nat) (64 : Nat)))] else fun i' => mergeL (decide (i'
    = (1 : Nat))) [SV.int IntKind.u8 (IntKind.u8.wrap (↑(List.length d) / (2 : Int) ^ min (8 : Nat) (64 : Nat)))] ((if (6 : Nat) = (1 : Nat) then fun x => [SV.int IntKind.u8
    (IntKind.u8.wrap ↑(List.length d))] else fun i' => mergeL (decide (i' = (0 : Nat))) [SV.int IntKind.u8 (IntKind.u8.wrap ↑(List.length d))] [SV.int IntKind.u8 (0
    : Int)]) i')) i')) i')) i')) i'))]) = if true = true then [] else List.map Seg.shape [Seg.a (6 : Nat) (1 : Nat) (if (6 : Nat) = (1 : Nat) then fun x => [SV.int IntKind.u8
    (IntKind.u8.wrap (sumS d / (2 : Int) ^ min (8 : Nat) (64 : Nat)))] else fun i' => mergeL (decide (i' = (5 : Nat))) [SV.int IntKind.u8 (IntKind.u8.wrap (sumS d /
    (2 : Int) ^ min (8 : Nat) (64 : Nat)))] ((if (6 : Nat) = (1 : Nat) then fun x => [SV.int IntKind.u8 (IntKind.u8.wrap (sumS d))] else fun i' => mergeL (decide (i'
    = (4 : Nat))) [SV.int IntKind.u8 (IntKind.u8.wrap (sumS d))] ((if (6 : Nat) = (1 : Nat) then fun x => [SV.int IntKind.u8 (IntKind.u8.wrap ((255 : Int) - IntKind.u8.wrap
    (↑(List.length d) / (2 : Int) ^ min (8 : Nat) (64 : Nat))))] else fun i' => mergeL (decide (i' = (3 : Nat))) [SV.int IntKind.u8 (IntKind.u8.wrap ((255 : Int) - IntKind.u8.wrap
    (↑(List.length d) / (2 : Int) ^ min (8 : Nat) (64 : Nat))))] ((if (6 : Nat) = (1 : Nat) then fun x => [SV.int IntKind.u8 (IntKind.u8.wrap ((255 : Int) - IntKind.u8.wrap
    ↑(List.length d)))] else fun i' => mergeL (decide (i' = (2 : Nat))) [SV.int IntKind.u8 (IntKind.u8.wrap ((255 : Int) - IntKind.u8.wrap ↑(List.length d)))] ((if (6
    : Nat) = (1 : Nat) then fun x => [SV.int IntKind.u8 (IntKind.u8.wrap (↑(List.length d) / (2 : Int) ^ min (8 : Nat) (64 : Nat)))] else fun i' => mergeL (decide (i'
    = (1 : Nat))) [SV.int IntKind.u8 (IntKind.u8.wrap (↑(List.length d) / (2 : Int) ^ min (8 : Nat) (64 : Nat)))] ((if (6 : Nat) = (1 : Nat) then fun x => [SV.int IntKind.u8
    (IntKind.u8.wrap ↑(List.length d))] else fun i' => mergeL (decide (i' = (0 : Nat))) [SV.int IntKind.u8 (IntKind.u8.wrap ↑(List.length d))] [SV.int IntKind.u8 (0
    : Int)]) i')) i')) i')) i')) i'))]) ∧ ((sm ((6 : Nat) + List.length d) ∧ sm ((1 : Nat)) ∧ ∀ (i : Nat), i < (6 : Nat) + List.length d → (sm (if decide (i < (6 : Nat))
    = true then if decide (i = (5 : Nat)) = true then IntKind.u8.wrap (sumS d / (2 : Int) ^ min (8 : Nat) (64 : Nat)) else if decide (i = (4 : Nat)) = true then IntKind.u8.wrap
    (sumS d) else if decide (i = (3 : Nat)) = true then IntKind.u8.wrap ((255 : Int) - IntKind.u8.wrap (↑(List.length d) / (2 : Int) ^ min (8 : Nat) (64 : Nat))) else
    if decide (i = (2 : Nat)) = true then IntKind.u8.wrap ((255 : Int) - IntKind.u8.wrap ↑(List.length d)) else if decide (i = (1 : Nat)) = true then IntKind.u8.wrap
    (↑(List.length d) / (2 : Int) ^ min (8 : Nat) (64 : Nat)) else if decide (i = (0 : Nat)) = true then IntKind.u8.wrap ↑(List.length d) else (0 : Int) else ↑(List.getD
    d (i - (6 : Nat)) (0 : UInt8)).toNat)) ∧ True) ∧ True) ∧ True) ∧ (decide (n_1 > (0 : Int)) = false → True ∧ J16 m d b (W (n + (1 : Int)), W (n_1 - (1 : Int)), rowL
    (codI IntKind.u8) (List.length m) fun j => (codI IntKind.u8).enc (l.getD j (codI IntKind.u8).dft), ()) ∧ ((6 : Int) + ↑(List.length d) - W (n + (1 : Int))).toNat
    < ((6 : Int) + ↑(List.length d) - n).toNat ∧ (m = m ∧ d = d ∧ b = b ∧ True ∧ True ∧ True ∧ Eq (α := List UInt8) (Array.toList #[]) (Array.toList #[]) ∧ sm ((0 :
    Int)) ∧ curI m = curI m ∧ curN m = curN m ∧ curD m = curD m ∧ curE m = curE m ∧ True ∧ True ∧ (sm ((29 : Nat)) ∧ True ∧ True ∧ True ∧ True ∧ True) ∧ True ∧ True
    ∧ (curI m = curI m ∧ curN m = curN m ∧ curD m = curD m ∧ curE m = curE m ∧ True) ∧ m = m ∧ (curI m = curI m ∧ curN m = curN m ∧ curD m = curD m ∧ curE m = curE m
    ∧ True) ∧ curI m = curI m ∧ curN m = curN m ∧ curD m = curD m ∧ curE m = curE m ∧ curE m = curE m ∧ True ∧ True ∧ d = d ∧ Eq (α := Int) ↑(List.length d) ↑(List.length
    d) ∧ True ∧ m = m ∧ (sm ((0 : Nat)) ∧ sm (List.length m)) ∧ b = b ∧ (sm (if (0 : Int) > b then (0 : Int) else b)) ∧ curI m = curI m ∧ sm (W ((1 : Int) - curI m))
    ∧ sm (W (W ((1 : Int) - curI m) * (1031 : Int))) ∧ (sm ((29 : Nat)) ∧ True ∧ True ∧ True ∧ True ∧ True) ∧ (sm ((29 : Nat)) ∧ True ∧ True ∧ True ∧ True ∧ True) ∧
    True ∧ d = d ∧ True ∧ d = d ∧ (sm ((0 : Nat)) ∧ sm ((6 : Nat) + List.length d)) ∧ Eq (α := Int) ↑((6 : Nat) + List.length d) ↑((6 : Nat) + List.length d) ∧ sm (W
    (n + (1 : Int))) ∧ True ∧ True ∧ True ∧ True ∧ True ∧ True ∧ True ∧ True ∧ True ∧ True ∧ True ∧ True ∧ True ∧ True ∧ True ∧ True ∧ True ∧ True ∧ True ∧ True ∧ True
    ∧ True ∧ True ∧ True) ∧ ((if false = true then [] else List.map Seg.shape [Seg.s (SV.int IntKind.i64 b)]) = if false = true then [] else List.map Seg.shape [Seg.s
    (SV.int IntKind.i64 b)]) ∧ (sm (W (n_1 - (1 : Int))) ∧ True) ∧ ((if true = true then [] else List.map Seg.shape [Seg.a (List.length m) (1 : Nat) (byteSV m)]) = if
    true = true then [] else List.map Seg.shape [Seg.a (List.length m) (1 : Nat) (byteSV m)]) ∧ ((sm (List.length m) ∧ sm ((codI IntKind.u8).n) ∧ ∀ (i : Nat), i < List.length
    m → l.getD i (codI IntKind.u8).dft = (rowL (codI IntKind.u8) (List.length m) fun j => (codI IntKind.u8).enc (l.getD j (codI IntKind.u8).dft)).getD i (codI IntKind.u8).dft
    ∧ True) ∧ True) ∧ ((if false = true then [] else List.map Seg.shape [Seg.s SV.nils]) = if false = true then [] else List.map Seg.shape [Seg.s SV.nils]) ∧ ((sm ((0
    : Nat)) ∧ sm (List.length m)) ∧ True) ∧ ((if false = true then [] else List.map Seg.shape [Seg.s (SV.int IntKind.i64 (0 : Int))]) = if false = true then [] else
    List.map Seg.shape [Seg.s (SV.int IntKind.i64 (0 : Int))]) ∧ (sm (W (W ((1 : Int) - curI m) * (1031 : Int))) ∧ True) ∧ ((if true = true then [] else List.map Seg.shape
    [Seg.a (6 : Nat) (1 : Nat) (if (6 : Nat) = (1 : Nat) then fun x => [SV.int IntKind.u8 (IntKind.u8.wrap (sumS d / (2 : Int) ^ min (8 : Nat) (64 : Nat)))] else fun
    i' => mergeL (decide (i' = (5 : Nat))) [SV.int IntKind.u8 (IntKind.u8.wrap (sumS d / (2 : Int) ^ min (8 : Nat) (64 : Nat)))] ((if (6 : Nat) = (1 : Nat) then fun
    x => [SV.int IntKind.u8 (IntKind.u8.wrap (sumS d))] else fun i' => mergeL (decide (i' = (4 : Nat))) [SV.int IntKind.u8 (IntKind.u8.wrap (sumS d))] ((if (6 : Nat)
    = (1 : Nat) then fun x => [SV.int IntKind.u8 (IntKind.u8.wrap ((255 : Int) - IntKind.u8.wrap (↑(List.length d) / (2 : Int) ^ min (8 : Nat) (64 : Nat))))] else fun
    i' => mergeL (decide (i' = (3 : Nat))) [SV.int IntKind.u8 (IntKind.u8.wrap ((255 : Int) - IntKind.u8.wrap (↑(List.length d) / (2 : Int) ^ min (8 : Nat) (64 : Nat))))]
    ((if (6 : Nat) = (1 : Nat) then fun x => [SV.int IntKind.u8 (IntKind.u8.wrap ((255 : Int) - IntKind.u8.wrap ↑(List.length d)))] else fun i' => mergeL (decide (i'
    = (2 : Nat))) [SV.int IntKind.u8 (IntKind.u8.wrap ((255 : Int) - IntKind.u8.wrap ↑(List.length d)))] ((if (6 : Nat) = (1 : Nat) then fun x => [SV.int IntKind.u8
    (IntKind.u8.wrap (↑(List.length d) / (2 : Int) ^ min (8 : Nat) (64 : Nat)))] else fun i' => mergeL (decide (i' = (1 : Nat))) [SV.int IntKind.u8 (IntKind.u8.wrap
    (↑(List.length d) / (2 : Int) ^ min (8 : Nat) (64 : Nat)))] ((if (6 : Nat) = (1 : Nat) then fun x => [SV.int IntKind.u8 (IntKind.u8.wrap ↑(List.length d))] else
    fun i' => mergeL (decide (i' = (0 : Nat))) [SV.int IntKind.u8 (IntKind.u8.wrap ↑(List.length d))] [SV.int IntKind.u8 (0 : Int)]) i')) i')) i')) i')) i'))]) = if
    true = true then [] else List.map Seg.shape [Seg.a (6 : Nat) (1 : Nat) (if (6 : Nat) = (1 : Nat) then fun x => [SV.int IntKind.u8 (IntKind.u8.wrap (sumS d / (2 :
    Int) ^ min (8 : Nat) (64 : Nat)))] else fun i' => mergeL (decide (i' = (5 : Nat))) [SV.int IntKind.u8 (IntKind.u8.wrap (sumS d / (2 : Int) ^ min (8 : Nat) (64 :
    Nat)))] ((if (6 : Nat) = (1 : Nat) then fun x => [SV.int IntKind.u8 (IntKind.u8.wrap (sumS d))] else fun i' => mergeL (decide (i' = (4 : Nat))) [SV.int IntKind.u8
    (IntKind.u8.wrap (sumS d))] ((if (6 : Nat) = (1 : Nat) then fun x => [SV.int IntKind.u8 (IntKind.u8.wrap ((255 : Int) - IntKind.u8.wrap (↑(List.length d) / (2 :
    Int) ^ min (8 : Nat) (64 : Nat))))] else fun i' => mergeL (decide (i' = (3 : Nat))) [SV.int IntKind.u8 (IntKind.u8.wrap ((255 : Int) - IntKind.u8.wrap (↑(List.length
    d) / (2 : Int) ^ min (8 : Nat) (64 : Nat))))] ((if (6 : Nat) = (1 : Nat) then fun x => [SV.int IntKind.u8 (IntKind.u8.wrap ((255 : Int) - IntKind.u8.wrap ↑(List.length
    d)))] else fun i' => mergeL (decide (i' = (2 : Nat))) [SV.int IntKind.u8 (IntKind.u8.wrap ((255 : Int) - IntKind.u8.wrap ↑(List.length d)))] ((if (6 : Nat) = (1
    : Nat) then fun x => [SV.int IntKind.u8 (IntKind.u8.wrap (↑(List.length d) / (2 : Int) ^ min (8 : Nat) (64 : Nat)))] else fun i' => mergeL (decide (i' = (1 : Nat)))
    [SV.int IntKind.u8 (IntKind.u8.wrap (↑(List.length d) / (2 : Int) ^ min (8 : Nat) (64 : Nat)))] ((if (6 : Nat) = (1 : Nat) then fun x => [SV.int IntKind.u8 (IntKind.u8.wrap
    ↑(List.length d))] else fun i' => mergeL (decide (i' = (0 : Nat))) [SV.int IntKind.u8 (IntKind.u8.wrap ↑(List.length d))] [SV.int IntKind.u8 (0 : Int)]) i')) i'))
    i')) i')) i'))]) ∧ ((sm ((6 : Nat) + List.length d) ∧ sm ((1 : Nat)) ∧ ∀ (i : Nat), i < (6 : Nat) + List.length d → (sm (if decide (i < (6 : Nat)) = true then if
    decide (i = (5 : Nat)) = true then IntKind.u8.wrap (sumS d / (2 : Int) ^ min (8 : Nat) (64 : Nat)) else if decide (i = (4 : Nat)) = true then IntKind.u8.wrap (sumS
    d) else if decide (i = (3 : Nat)) = true then IntKind.u8.wrap ((255 : Int) - IntKind.u8.wrap (↑(List.length d) / (2 : Int) ^ min (8 : Nat) (64 : Nat))) else if decide
    (i = (2 : Nat)) = true then IntKind.u8.wrap ((255 : Int) - IntKind.u8.wrap ↑(List.length d)) else if decide (i = (1 : Nat)) = true then IntKind.u8.wrap (↑(List.length
    d) / (2 : Int) ^ min (8 : Nat) (64 : Nat)) else if decide (i = (0 : Nat)) = true then IntKind.u8.wrap ↑(List.length d) else (0 : Int) else ↑(List.getD d (i - (6
    : Nat)) (0 : UInt8)).toNat)) ∧ True) ∧ True) ∧ True)) ∧ (decide (n < ↑((6 : Nat) + List.length d)) = false → ((0 : Int) ≤ W (curI m * (1031 : Int)) ∧ W (curI m *
    (1031 : Int)) < ↑(List.length m)) ∧ True ∧ (True ∧ (0 : Int) ≤ ↑(List.getD m (W (curI m * (1031 : Int))).toNat (0 : UInt8)).toNat ∧ ↑(List.getD m (W (curI m * (1031
    : Int))).toNat (0 : UInt8)).toNat < (256 : Int)) ∧ True ∧ (decide (n_1 > (0 : Int)) = true → ((0 : Int) ≤ W (W (W ((1 : Int) - curI m) * (1031 : Int)) + (0 : Int))
    ∧ W (W (W ((1 : Int) - curI m) * (1031 : Int)) + (0 : Int)) < ↑(List.length m)) ∧ (0 : Nat) + (W (W (W ((1 : Int) - curI m) * (1031 : Int)) + (0 : Int))).toNat <
    List.length m ∧ True ∧ True ∧ (decide (W (n_1 - (1 : Int)) < (0 : Int)) = true → (0 : Nat) + List.length m ≤ List.length m ∧ (∀ (j : Nat), j < List.length m → isByte
    ((fun (i' : Nat) => mergeL (decide (i' = (0 : Nat) + (W (W (W ((1 : Int) - curI m) * (1031 : Int)) + (0 : Int))).toNat)) (setL ((codI IntKind.u8).enc (l.getD ((0
    : Nat) + (W (W (W ((1 : Int) - curI m) * (1031 : Int)) + (0 : Int))).toNat) (codI IntKind.u8).dft)) (0 : Nat) [SV.int IntKind.u8 (nxt ↑(List.getD m (W (curI m *
    (1031 : Int))).toNat (0 : UInt8)).toNat)]) ((codI IntKind.u8).enc (l.getD i' (codI IntKind.u8).dft))) ((0 : Nat) + j)) = true) ∧ True ∧ True ∧ ((bytesOf (List.length
    m) fun i => mergeL (decide ((0 : Nat) + i = (0 : Nat) + (W (W (W ((1 : Int) - curI m) * (1031 : Int)) + (0 : Int))).toNat)) (setL ((codI IntKind.u8).enc (l.getD
    ((0 : Nat) + (W (W (W ((1 : Int) - curI m) * (1031 : Int)) + (0 : Int))).toNat) (codI IntKind.u8).dft)) (0 : Nat) [SV.int IntKind.u8 (nxt ↑(List.getD m (W (curI
    m * (1031 : Int))).toNat (0 : UInt8)).toNat)]) ((codI IntKind.u8).enc (l.getD ((0 : Nat) + i) (codI IntKind.u8).dft))) = cmS m d b ∧ (61 : Int) = cmE m d b ∧ True)
    ∧ True) ∧ (decide (W (n_1 - (1 : Int)) < (0 : Int)) = false → (0 : Nat) + List.length m ≤ List.length m ∧ (∀ (j : Nat), j < List.length m → isByte ((fun (i' : Nat)
    => mergeL (decide (i' = (0 : Nat) + (W (W (W ((1 : Int) - curI m) * (1031 : Int)) + (0 : Int))).toNat)) (setL ((codI IntKind.u8).enc (l.getD ((0 : Nat) + (W (W (W
    ((1 : Int) - curI m) * (1031 : Int)) + (0 : Int))).toNat) (codI IntKind.u8).dft)) (0 : Nat) [SV.int IntKind.u8 (nxt ↑(List.getD m (W (curI m * (1031 : Int))).toNat
    (0 : UInt8)).toNat)]) ((codI IntKind.u8).enc (l.getD i' (codI IntKind.u8).dft))) ((0 : Nat) + j)) = true) ∧ True ∧ True ∧ ((bytesOf (List.length m) fun i => mergeL
    (decide ((0 : Nat) + i = (0 : Nat) + (W (W (W ((1 : Int) - curI m) * (1031 : Int)) + (0 : Int))).toNat)) (setL ((codI IntKind.u8).enc (l.getD ((0 : Nat) + (W (W
    (W ((1 : Int) - curI m) * (1031 : Int)) + (0 : Int))).toNat) (codI IntKind.u8).dft)) (0 : Nat) [SV.int IntKind.u8 (nxt ↑(List.getD m (W (curI m * (1031 : Int))).toNat
    (0 : UInt8)).toNat)]) ((codI IntKind.u8).enc (l.getD ((0 : Nat) + i) (codI IntKind.u8).dft))) = cmS m d b ∧ (0 : Int) = cmE m d b ∧ True) ∧ True)) ∧ (decide (n_1
    > (0 : Int)) = false → True ∧ (decide (W (n_1 - (1 : Int)) < (0 : Int)) = true → (0 : Nat) + List.length m ≤ List.length m ∧ (∀ (j : Nat), j < List.length m → isByte
    ((fun (j : Nat) => (codI IntKind.u8).enc (l.getD j (codI IntKind.u8).dft)) ((0 : Nat) + j)) = true) ∧ True ∧ True ∧ ((bytesOf (List.length m) fun i => (codI IntKind.u8).enc
    (l.getD ((0 : Nat) + i) (codI IntKind.u8).dft)) = cmS m d b ∧ (61 : Int) = cmE m d b ∧ True) ∧ True) ∧ (decide (W (n_1 - (1 : Int)) < (0 : Int)) = false → (0 : Nat)
    + List.length m ≤ List.length m ∧ (∀ (j : Nat), j < List.length m → isByte ((fun (j : Nat) => (codI IntKind.u8).enc (l.getD j (codI IntKind.u8).dft)) ((0 : Nat)
    + j)) = true) ∧ True ∧ True ∧ ((bytesOf (List.length m) fun i => (codI IntKind.u8).enc (l.getD ((0 : Nat) + i) (codI IntKind.u8).dft)) = cmS m d b ∧ (0 : Int) =
    cmE m d b ∧ True) ∧ True))))))) = vc16 m d b := by kernel_rfl
theorem cmB_len (d : Bs) : (cmB d).length = 7 + d.length := by
  simp only [cmB, List.length_cons, List.length_append, bys_len, hdI_len]; omega
theorem cmB_0 (d : Bs) : by' (cmB d) 0 = 0 := by simp only [cmB, by']; rfl
theorem cmB_S {d : Bs} (h : d.length ≤ 1024) (n : Nat) : by' (cmB d) (n + 1) = if n < 6 then (hdI d).getD n 0 else by' d (n - 6) := by
  have hl := bys_len (hdI d)
  rw [hdI_len] at hl
  simp only [cmB, by', List.getD_cons_succ]
  split
  · rename_i h1
    rw [getD_appL (by omega), bys_at _ (by rw [hdI_len]; exact h1)]
    obtain ⟨a, b⟩ := hdI_bd h n h1
    rw [UInt8.toNat_ofNat', Nat.mod_eq_of_lt (by omega)]; omega
  · rename_i h1
    rw [getD_appR (by omega), hl]
theorem cm_val {d : Bs} (h : d.length ≤ 1024) {n : Int} (h0 : 0 ≤ n) : (if n < 6 then if n.toNat = 5 then IntKind.u8.wrap (sumS d / 256) else if n.toNat = 4 then IntKind.u8.wrap (sumS d) else if n.toNat = 3 then IntKind.u8.wrap (255 - IntKind.u8.wrap ((d.length : Int) / 256)) else if n.toNat = 2 then IntKind.u8.wrap (255 - IntKind.u8.wrap (d.length : Int)) else if n.toNat = 1 then IntKind.u8.wrap ((d.length : Int) / 256) else if n ≤ 0 then IntKind.u8.wrap (d.length : Int) else 0 else by' d (n.toNat - 6)) = by' (cmB d) (1 + n).toNat := by
  rw [show (1 + n).toNat = n.toNat + 1 by omega, cmB_S h]
  by_cases h1 : n < 6
  · rw [if_pos h1, if_pos (show n.toNat < 6 by omega)]
    obtain ⟨e1, e2, e3, e4, e5, e6⟩ := hd_vals d h
    rcases (show n = 0 ∨ n = 1 ∨ n = 2 ∨ n = 3 ∨ n = 4 ∨ n = 5 by omega) with rfl | rfl | rfl | rfl | rfl | rfl <;> simp [hdI, e1, e2, e3, e4, e5, e6]
  · rw [if_neg h1, if_neg (show ¬ n.toNat < 6 by omega)]
theorem cm_W (m : Bs) : W (1 - curI m) = 1 - curI m ∧ W ((1 - curI m) * 1031) = (1 - curI m) * 1031 ∧ W (curI m * 1031) = curI m * 1031 := by
  have c := curI_bd m
  have e1 : W (1 - curI m) = 1 - curI m := W_id (by omega) (by omega)
  have e2 : W ((1 - curI m) * 1031) = (1 - curI m) * 1031 := W_id (by omega) (by omega)
  exact ⟨e1, e2, W_id (by omega) (by omega)⟩
theorem curE_val (m : Bs) : curE m = 0 ∨ curE m = 1 ∨ curE m = 62 := by
  simp only [curE]
  split
  · split <;> simp
  · simp
theorem cm_mark {m : Bs} (h : m.length = 2062) : by' m (curI m * 1031).toNat = by' (slS m (curI m)) 0 := by
  rcases (show curI m = 0 ∨ curI m = 1 by have := curI_bd m; omega) with e | e <;> rw [e]
  · exact (sl_by m).symm
  · rw [sl_eq1 h, by_drop]; rfl
theorem recI {n : Nat} {f : Nat → List SV} {j : Nat} {v : Int} (h : j < n) (e : f j = [.int .u8 v]) : (rowL (codI .u8) n f).getD j 0 = v := by
  rw [rowL_get (C := codI .u8) h, e]
  show (rI .u8 (.int .u8 v)).getD 0 = v
  rw [rI_self]; rfl
theorem wr_set {m d : Bs} {k v : Int} {g : Nat → Int} {f : Nat → List SV} (hg : ∀ j : Nat, j < m.length → g j = if (1 - curI m) * 1031 ≤ j ∧ (j : Int) < (1 - curI m) * 1031 + k then by' (cmB d) ((j : Int) - (1 - curI m) * 1031).toNat else by' m j) (k0 : 0 ≤ k) (hv : v = by' (cmB d) k.toNat)
    (hf : ∀ j, f j = [.int .u8 (if decide (j = ((1 - curI m) * 1031 + k).toNat) then v else g j)]) : wrI m d (k + 1) (rowL (codI .u8) m.length f) := by
  have c := curI_bd m
  simp only [wrI]
  refine ⟨rowL_length .., fun j hj => ?_⟩
  rw [recI hj (hf j), hg j hj]
  by_cases e : j = ((1 - curI m) * 1031 + k).toNat
  · rw [decide_eq_true e, if_pos rfl, if_pos (by omega), hv]
    congr 1; omega
  · rw [decide_eq_false e, if_neg (by decide)]
    by_cases e2 : (1 - curI m) * 1031 ≤ j ∧ (j : Int) < (1 - curI m) * 1031 + k
    · rw [if_pos e2, if_pos (by omega)]
    · rw [if_neg e2, if_neg (by omega)]
theorem wr_zero (m d : Bs) {k : Int} (k0 : k ≤ 0) (j : Nat) : by' m j = if (1 - curI m) * 1031 ≤ j ∧ (j : Int) < (1 - curI m) * 1031 + k then by' (cmB d) ((j : Int) - (1 - curI m) * 1031).toNat else by' m j := by
  rw [if_neg (by omega)]
theorem cm_at {m d : Bs} {b : Int} {l : List Int} (hw : wrI m d (min (7 + (d.length : Int)) (max b 0)) l) {j : Nat} (hj : j < m.length) (h : ¬ ((d.length : Int) + 8 ≤ b ∧ (j : Int) = (1 - curI m) * 1031)) : UInt8.ofNat (l.getD j 0).toNat = cmAt m d b j := by
  simp only [wrI] at hw
  simp only [cmAt]
  rw [if_neg h, hw.2 j hj]
  split
  · simp only [by']; exact ofNat_by ..
  · simp only [by']; exact ofNat_by ..
theorem byteSV_by (m : Bs) (j : Nat) : byteSV m j = [SV.int .u8 (by' m j)] := by simp only [byteSV, by']
theorem mrg0 (c : Bool) (m : Bs) (k j : Nat) (v : Int) : mergeL c (setL (byteSV m k) 0 [SV.int IntKind.u8 v]) (byteSV m j) = [SV.int .u8 (if c then v else by' m j)] := by simp only [by']; rfl
theorem t16 (m d : Bs) (b : Int) (hdl : d.length ≤ 1000000) (b0 : -9223372036854775808 ≤ b) (b1 : b < 9223372036854775808) : vc16 m d b := by
  rw [← vc16_eq]
  simp [-List.getD_eq_getElem?_getD, W_def, by_def]
  obtain ⟨w1, w2, w3⟩ := cm_W m
  have c := curI_bd m
  have ev := curE_val m
  simp only [w1, w2, w3, show (if b < 0 then 0 else b) = max b 0 by split <;> omega]
  refine ⟨fun h => ?_, fun h => ⟨fun h1 => ?_, fun h1 => ?_⟩⟩
  · have e : cmE m d b = curE m := by simp only [cmE]; rw [if_neg h]
    exact ⟨by simp only [cmS]; rw [e, if_neg (by omega)], e.symm⟩
  · have e : cmE m d b = 9 := by simp only [cmE]; rw [if_pos h, if_pos (by omega)]
    exact ⟨by simp only [cmS]; rw [e, if_neg (by omega)], e.symm⟩
  · have hl := (curE_ok h).1
    have hd : d.length ≤ 1024 := by omega
    have e : cmE m d b = if b < d.length + 8 then 61 else 0 := by simp only [cmE]; rw [if_pos h, if_neg (by omega)]
    have es : cmS m d b = (List.range m.length).map (cmAt m d b) := by simp only [cmS]; rw [hl, if_pos (by rw [e]; split <;> omega)]
    rw [cm_mark hl]
    refine ⟨fun hb => ⟨by omega, by omega, hdl, by omega, ⟨?_, fun i hi => ?_⟩, fun n n1 l hJ => ⟨fun h2 => ?_, fun h2 => ?_⟩⟩, fun hb => ⟨hdl, by omega, ⟨?_, fun i hi => ?_⟩, fun n n1 l hJ => ⟨fun h2 => ?_, fun h2 => ?_⟩⟩⟩
    · simp only [J16]
      refine ⟨by omega, by omega, by rw [W_id (by omega) (by omega)]; omega, ?_⟩
      rw [show min (1 + (0 : Int)) (max b 0) = 0 + 1 by omega]
      exact wr_set (g := fun i => by' m i) (fun j hj => wr_zero m d (by omega) j) (by omega) (cmB_0 d).symm (fun j => by rw [Int.add_zero]; exact mrg0 ..)
    · rw [recI hi (v := if decide (i = ((1 - curI m) * 1031).toNat) then 0 else by' m i) (mrg0 ..)]
      simp
    · simp only [J16] at hJ
      obtain ⟨j0, j1, j2, j3⟩ := hJ
      have e1 : W (n + 1) = n + 1 := W_id (by omega) (by omega)
      have e2 : W (n1 - 1) = n1 - 1 := W_id (by omega) (by omega)
      have e3 : W (1 + n) = 1 + n := W_id (by omega) (by omega)
      have e4 : W ((1 - curI m) * 1031 + (1 + n)) = (1 - curI m) * 1031 + (1 + n) := W_id (by omega) (by omega)
      have j4 := j3
      simp only [wrI] at j4
      simp only [e1, e2, e3, e4, cm_val hd j0]
      refine ⟨by omega, by omega, fun h3 => ⟨by omega, by omega, ?_, by omega, fun i hi => ?_⟩, fun h3 => ⟨?_, by omega, fun i hi => ?_⟩⟩
      · simp only [J16]
        refine ⟨by omega, by omega, by omega, ?_⟩
        rw [show min (1 + (n + 1)) (max b 0) = (1 + n) + 1 by omega]
        rw [show min (1 + n) (max b 0) = 1 + n by omega] at j4
        exact wr_set (g := fun i => l.getD i 0) (fun j hj => j4.2 j hj) (by omega) rfl (fun j => rfl)
      · rw [recI hi (v := if decide (i = ((1 - curI m) * 1031 + (1 + n)).toNat) then by' (cmB d) (1 + n).toNat else l.getD i 0) rfl]
        simp
      · simp only [J16]
        refine ⟨by omega, by omega, by omega, ?_⟩
        rw [show min (1 + (n + 1)) (max b 0) = min (1 + n) (max b 0) by omega]
        have e : (rowL (codI IntKind.u8) m.length fun j => [SV.int IntKind.u8 (l.getD j 0)]) = l := rowL_enc (C := codI .u8) j4.1.symm
        rw [e]; exact j3
      · exact (recI hi rfl).symm
    · simp only [J16] at hJ
      obtain ⟨j0, j1, j2, j3⟩ := hJ
      have e2 : W (n1 - 1) = n1 - 1 := W_id (by omega) (by omega)
      have j4 := j3
      rw [show min (1 + n) (max b 0) = min (7 + (d.length : Int)) (max b 0) by omega] at j4
      have nb := by_bd (slS m (curI m)) 0
      rw [e2, e, es]
      refine ⟨by omega, nb, fun h3 => ⟨by omega, by omega, fun h4 => by omega, fun h4 => ⟨fun j hj => by rw [mrgI]; rfl, ?_, by rw [if_neg (by omega)]⟩⟩, fun h3 => ⟨fun h4 => ⟨fun j hj => rfl, ?_, by rw [if_pos (by omega)]⟩, fun h4 => by omega⟩⟩
      · simp only [bytesOf]
        refine List.map_congr_left fun j hj => ?_
        rw [mrgI]
        simp only [Sx.byteOf]
        by_cases q : j = ((1 - curI m) * 1031).toNat
        · rw [decide_eq_true q, if_pos rfl]
          simp only [cmAt]
          rw [if_pos (by omega)]
        · rw [decide_eq_false q, if_neg (by decide)]
          exact cm_at j4 (List.mem_range.1 hj) (by omega)
      · simp only [bytesOf]
        refine List.map_congr_left fun j hj => ?_
        exact cm_at j4 (List.mem_range.1 hj) (by omega)
    · simp only [J16]
      refine ⟨by omega, by omega, by rw [W_id (by omega) (by omega)]; omega, ?_⟩
      rw [show min (1 + (0 : Int)) (max b 0) = 0 by omega]
      simp only [wrI]
      refine ⟨rowL_length .., fun j hj => ?_⟩
      rw [recI hj (byteSV_by m j)]
      exact wr_zero m d (Int.le_refl 0) j
    · exact (recI hi (byteSV_by m i)).symm
    · simp only [J16] at hJ
      obtain ⟨j0, j1, j2, j3⟩ := hJ
      have e1 : W (n + 1) = n + 1 := W_id (by omega) (by omega)
      have e2 : W (n1 - 1) = n1 - 1 := W_id (by omega) (by omega)
      have e3 : W (1 + n) = 1 + n := W_id (by omega) (by omega)
      have e4 : W ((1 - curI m) * 1031 + (1 + n)) = (1 - curI m) * 1031 + (1 + n) := W_id (by omega) (by omega)
      have j4 := j3
      simp only [wrI] at j4
      simp only [e1, e2, e3, e4, cm_val hd j0]
      refine ⟨by omega, by omega, fun h3 => ⟨by omega, by omega, ?_, by omega, fun i hi => ?_⟩, fun h3 => ⟨?_, by omega, fun i hi => ?_⟩⟩
      · simp only [J16]
        refine ⟨by omega, by omega, by omega, ?_⟩
        rw [show min (1 + (n + 1)) (max b 0) = (1 + n) + 1 by omega]
        rw [show min (1 + n) (max b 0) = 1 + n by omega] at j4
        exact wr_set (g := fun i => l.getD i 0) (fun j hj => j4.2 j hj) (by omega) rfl (fun j => rfl)
      · rw [recI hi (v := if decide (i = ((1 - curI m) * 1031 + (1 + n)).toNat) then by' (cmB d) (1 + n).toNat else l.getD i 0) rfl]
        simp
      · simp only [J16]
        refine ⟨by omega, by omega, by omega, ?_⟩
        rw [show min (1 + (n + 1)) (max b 0) = min (1 + n) (max b 0) by omega]
        have e : (rowL (codI IntKind.u8) m.length fun j => [SV.int IntKind.u8 (l.getD j 0)]) = l := rowL_enc (C := codI .u8) j4.1.symm
        rw [e]; exact j3
      · exact (recI hi rfl).symm
    · simp only [J16] at hJ
      obtain ⟨j0, j1, j2, j3⟩ := hJ
      have e2 : W (n1 - 1) = n1 - 1 := W_id (by omega) (by omega)
      have j4 := j3
      rw [show min (1 + n) (max b 0) = min (7 + (d.length : Int)) (max b 0) by omega] at j4
      have nb := by_bd (slS m (curI m)) 0
      rw [e2, e, es]
      refine ⟨by omega, nb, fun h3 => ⟨by omega, by omega, fun h4 => by omega, fun h4 => ⟨fun j hj => by rw [mrgI]; rfl, ?_, by rw [if_neg (by omega)]⟩⟩, fun h3 => ⟨fun h4 => ⟨fun j hj => rfl, ?_, by rw [if_pos (by omega)]⟩, fun h4 => by omega⟩⟩
      · simp only [bytesOf]
        refine List.map_congr_left fun j hj => ?_
        rw [mrgI]
        simp only [Sx.byteOf]
        by_cases q : j = ((1 - curI m) * 1031).toNat
        · rw [decide_eq_true q, if_pos rfl]
          simp only [cmAt]
          rw [if_pos (by omega)]
        · rw [decide_eq_false q, if_neg (by decide)]
          exact cm_at j4 (List.mem_range.1 hj) (by omega)
      · simp only [bytesOf]
        refine List.map_congr_left fun j hj => ?_
        exact cm_at j4 (List.mem_range.1 hj) (by omega)
theorem hI16 : InlOK Try.prog I16 where
  ok f fn h := by
    unfold I16 at h
    split at h
    · rename_i q
      have e := Nat.eq_of_beq_eq_true q
      subst e
      cases h
      exact ⟨Try.func29, by kernel_rfl, by kernel_rfl, by kernel_rfl⟩
    · split at h
      · rename_i q
        have e := Nat.eq_of_beq_eq_true q
        subst e
        cases h
        exact ⟨Try.func30, by kernel_rfl, by kernel_rfl, by kernel_rfl⟩
      · cases h
theorem k16 : TabOK Try.prog T16 := fn_tabJ k22 hI16 hm Try.func16 (by kernel_rfl) (by kernel_rfl) sSSI.ok (by kernel_rfl) (fun a => A16 a.1 a.2.1 a.2.2) fun a hp => by
  have h := t16 a.1 a.2.1 a.2.2 hp.1 hp.2.1 hp.2.2
  exact h
end Go.Proofs.Nv
