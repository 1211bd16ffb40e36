import Derived.Test.YtkpgbnchidjapaaNvC
namespace Go.Proofs.Nv
set_option linter.unusedVariables false
set_option linter.unusedSimpArgs false
open Go Go.Sx Go.Proofs
set_option maxRecDepth 100000
set_option maxHeartbeats 4000000
-- SAME: sm
-- ABBR: IntKind.i64.wrap ==> W
abbrev XD := Int × List Int
def J17 (m d : Bs) (b : Int) (x : XD) : Prop := 0 ≤ x.1 ∧ x.1 ≤ 7 + d.length ∧ x.1 ≤ max b 0 ∧ wrI m d x.1 x.2
attribute [irreducible] J17
noncomputable def A17 (m d : Bs) (b : Int) : List Ann := [⟨.unit, .list [.int .i64 (.tm 16), .arrL (codI .u8) m.length 0 0], fun _ (x : XD) => J17 m d b x, fun _ (x : XD) => (7 + (d.length : Int) - x.1).toNat⟩]
noncomputable def T17 : List (Nat × Ctr) := (17, cCm) :: T16
noncomputable def vc17 (m d : Bs) (b : Int) : Prop := cva T16 Try.f17 (A17 m d b) [.str m, .str d, iS b] (.tup [.str (cmS m d b), iS (cmE m d b)])
theorem vc17_eq (m d : Bs) (b : Int) : (True ∧ True ∧ (True ∧ True) ∧ True ∧ True ∧ ((curE m != (0 : Int)) = true → True ∧ True ∧ True ∧ (Array.toList #[] = cmS m d b ∧ curE m = cmE m d b ∧ True) ∧ True)
    ∧ ((curE m != (0 : Int)) = false → True ∧ (decide (↑(List.length d) > (1024 : Int)) = true → True ∧ True ∧ True ∧ (Array.toList #[] = cmS m d b ∧ (9 : Int) = cmE
    m d b ∧ True) ∧ True) ∧ (decide (↑(List.length d) > (1024 : Int)) = false → ((0 : Int) ≤ W (curI m * (1031 : Int)) ∧ W (curI m * (1031 : Int)) ≤ W (W (curI m * (1031
    : Int)) + (1031 : Int)) ∧ W (W (curI m * (1031 : Int)) + (1031 : Int)) ≤ ↑(List.length m)) ∧ True ∧ (True ∧ (List.drop (W (curI m * (1031 : Int))).toNat (List.take
    (W (W (curI m * (1031 : Int)) + (1031 : Int))).toNat m)).length = (1031 : Nat)) ∧ True ∧ True ∧ True ∧ True ∧ (True ∧ List.length d ≤ (1024 : Nat)) ∧ (1 : Nat) +
    List.length (bys (hdI d)) ≤ (9223372036854775807 : Nat) ∧ (#[(0 : UInt8)].toList ++ bys (hdI d)).length + List.length d ≤ (9223372036854775807 : Nat) ∧ True ∧ True
    ∧ (J17 m d b ((0 : Int), rowL (codI IntKind.u8) (List.length m) (byteSV m)) ∧ (m = m ∧ d = d ∧ b = b ∧ True ∧ True ∧ True ∧ True ∧ True ∧ curI m = curI m ∧ curN
    m = curN m ∧ curE m = curE m ∧ sm (rM (List.drop (W (curI m * (1031 : Int))).toNat (List.take (W (W (curI m * (1031 : Int)) + (1031 : Int))).toNat m))) ∧ sm (rR
    (List.drop (W (curI m * (1031 : Int))).toNat (List.take (W (W (curI m * (1031 : Int)) + (1031 : Int))).toNat m))) ∧ (sm ((0 : Nat)) ∧ sm (List.length m)) ∧ sm (W
    (W ((1 : Int) - curI m) * (1031 : Int))) ∧ sm (#[(0 : UInt8)].toList ++ bys (hdI d) ++ d) ∧ sm ((0 : Int)) ∧ (curI m = curI m ∧ curN m = curN m ∧ curE m = curE m
    ∧ True) ∧ m = m ∧ (curI m = curI m ∧ curN m = curN m ∧ curE m = curE m ∧ True) ∧ curI m = curI m ∧ curN m = curN m ∧ curE m = curE m ∧ curE m = curE m ∧ True ∧ True
    ∧ d = d ∧ Eq (α := Int) ↑(List.length d) ↑(List.length d) ∧ True ∧ (sm (rM (List.drop (W (curI m * (1031 : Int))).toNat (List.take (W (W (curI m * (1031 : Int))
    + (1031 : Int))).toNat m))) ∧ sm (rR (List.drop (W (curI m * (1031 : Int))).toNat (List.take (W (W (curI m * (1031 : Int)) + (1031 : Int))).toNat m))) ∧ True) ∧
    m = m ∧ curI m = curI m ∧ sm (W (curI m * (1031 : Int))) ∧ curI m = curI m ∧ sm (W (curI m * (1031 : Int))) ∧ sm (W (W (curI m * (1031 : Int)) + (1031 : Int))) ∧
    sm (List.drop (W (curI m * (1031 : Int))).toNat (List.take (W (W (curI m * (1031 : Int)) + (1031 : Int))).toNat m)) ∧ (sm (rM (List.drop (W (curI m * (1031 : Int))).toNat
    (List.take (W (W (curI m * (1031 : Int)) + (1031 : Int))).toNat m))) ∧ sm (rR (List.drop (W (curI m * (1031 : Int))).toNat (List.take (W (W (curI m * (1031 : Int))
    + (1031 : Int))).toNat m))) ∧ True) ∧ sm (rM (List.drop (W (curI m * (1031 : Int))).toNat (List.take (W (W (curI m * (1031 : Int)) + (1031 : Int))).toNat m))) ∧
    sm (rR (List.drop (W (curI m * (1031 : Int))).toNat (List.take (W (W (curI m * (1031 : Int)) + (1031 : Int))).toNat m))) ∧ m = m ∧ (sm ((0 : Nat)) ∧ sm (List.length
    m)) ∧ curI m = curI m ∧ sm (W ((1 : Int) - curI m)) ∧ sm (W (W ((1 : Int) - curI m) * (1031 : Int))) ∧ d = d ∧ sm (bys (hdI d)) ∧ sm (#[(0 : UInt8)].toList ++ bys
    (hdI d)) ∧ d = d ∧ sm (#[(0 : UInt8)].toList ++ bys (hdI d) ++ d) ∧ True ∧ True ∧ True ∧ True ∧ True ∧ True ∧ True ∧ True ∧ True ∧ True ∧ True ∧ True ∧ True ∧ True
    ∧ True ∧ True ∧ True ∧ True ∧ True ∧ True ∧ True ∧ True ∧ True ∧ True ∧ True ∧ True ∧ True ∧ True ∧ True ∧ True ∧ True ∧ True ∧ True ∧ True ∧ True) ∧ ((if true =
    true then [] else List.map Seg.shape [Seg.a (List.length m) (1 : Nat) (byteSV m)]) = if true = true then [] else List.map Seg.shape [Seg.a (List.length m) (1 : Nat)
    (byteSV m)]) ∧ ((sm (List.length m) ∧ (1 : Nat) = (codI IntKind.u8).n ∧ ∀ (i : Nat), i < List.length m → ↑(List.getD m i (0 : UInt8)).toNat = (rowL (codI IntKind.u8)
    (List.length m) (byteSV m)).getD i (codI IntKind.u8).dft ∧ True) ∧ True) ∧ True) ∧ ∀ (n : Int) (l : List Int), J17 m d b (n, l) → True ∧ (decide (n < ↑(#[(0 : UInt8)].toList
    ++ bys (hdI d) ++ d).length) = true → True ∧ (decide (n ≥ b) = true → (0 : Nat) + List.length m ≤ List.length m ∧ (∀ (j : Nat), j < List.length m → isByte ((fun
    (j : Nat) => (codI IntKind.u8).enc (l.getD j (codI IntKind.u8).dft)) ((0 : Nat) + j)) = true) ∧ True ∧ True ∧ True ∧ ((bytesOf (List.length m) fun i => (codI IntKind.u8).enc
    (l.getD ((0 : Nat) + i) (codI IntKind.u8).dft)) = cmS m d b ∧ (61 : Int) = cmE m d b ∧ True) ∧ True) ∧ (decide (n ≥ b) = false → ((0 : Int) ≤ n ∧ n < ↑(#[(0 : UInt8)].toList
    ++ bys (hdI d) ++ d).length) ∧ ((0 : Int) ≤ W (W (W ((1 : Int) - curI m) * (1031 : Int)) + n) ∧ W (W (W ((1 : Int) - curI m) * (1031 : Int)) + n) < ↑(List.length
    m)) ∧ (0 : Nat) + (W (W (W ((1 : Int) - curI m) * (1031 : Int)) + n)).toNat < List.length m ∧ True ∧ True ∧ J17 m d b (W (n + (1 : Int)), rowL (codI IntKind.u8)
    (List.length m) fun i' => mergeL (decide (i' = (0 : Nat) + (W (W (W ((1 : Int) - curI m) * (1031 : Int)) + n)).toNat)) (setL ((codI IntKind.u8).enc (l.getD ((0 :
    Nat) + (W (W (W ((1 : Int) - curI m) * (1031 : Int)) + n)).toNat) (codI IntKind.u8).dft)) (0 : Nat) [SV.int IntKind.u8 ↑((#[(0 : UInt8)].toList ++ bys (hdI d) ++
    d).getD n.toNat (0 : UInt8)).toNat]) ((codI IntKind.u8).enc (l.getD i' (codI IntKind.u8).dft))) ∧ ((7 : Int) + ↑(List.length d) - W (n + (1 : Int))).toNat < ((7
    : Int) + ↑(List.length d) - n).toNat ∧ (m = m ∧ d = d ∧ b = b ∧ True ∧ True ∧ True ∧ True ∧ True ∧ curI m = curI m ∧ curN m = curN m ∧ curE m = curE m ∧ sm (rM (List.drop
    (W (curI m * (1031 : Int))).toNat (List.take (W (W (curI m * (1031 : Int)) + (1031 : Int))).toNat m))) ∧ sm (rR (List.drop (W (curI m * (1031 : Int))).toNat (List.take
    (W (W (curI m * (1031 : Int)) + (1031 : Int))).toNat m))) ∧ (sm ((0 : Nat)) ∧ sm (List.length m)) ∧ sm (W (W ((1 : Int) - curI m) * (1031 : Int))) ∧ sm (#[(0 : UInt8)].toList
    ++ bys (hdI d) ++ d) ∧ sm (W (n + (1 : Int))) ∧ (curI m = curI m ∧ curN m = curN m ∧ curE m = curE m ∧ True) ∧ m = m ∧ (curI m = curI m ∧ curN m = curN m ∧ curE
    m = curE m ∧ True) ∧ curI m = curI m ∧ curN m = curN m ∧ curE m = curE m ∧ curE m = curE m ∧ True ∧ True ∧ d = d ∧ Eq (α := Int) ↑(List.length d) ↑(List.length d)
    ∧ True ∧ (sm (rM (List.drop (W (curI m * (1031 : Int))).toNat (List.take (W (W (curI m * (1031 : Int)) + (1031 : Int))).toNat m))) ∧ sm (rR (List.drop (W (curI m
    * (1031 : Int))).toNat (List.take (W (W (curI m * (1031 : Int)) + (1031 : Int))).toNat m))) ∧ True) ∧ m = m ∧ curI m = curI m ∧ sm (W (curI m * (1031 : Int))) ∧
    curI m = curI m ∧ sm (W (curI m * (1031 : Int))) ∧ sm (W (W (curI m * (1031 : Int)) + (1031 : Int))) ∧ sm (List.drop (W (curI m * (1031 : Int))).toNat (List.take
    (W (W (curI m * (1031 : Int)) + (1031 : Int))).toNat m)) ∧ (sm (rM (List.drop (W (curI m * (1031 : Int))).toNat (List.take (W (W (curI m * (1031 : Int)) + (1031
    : Int))).toNat m))) ∧ sm (rR (List.drop (W (curI m * (1031 : Int))).toNat (List.take (W (W (curI m * (1031 : Int)) + (1031 : Int))).toNat m))) ∧ True) ∧ sm (rM (List.drop
    (W (curI m * (1031 : Int))).toNat (List.take (W (W (curI m * (1031 : Int)) + (1031 : Int))).toNat m))) ∧ sm (rR (List.drop (W (curI m * (1031 : Int))).toNat (List.take
    (W (W (curI m * (1031 : Int)) + (1031 : Int))).toNat m))) ∧ m = m ∧ (sm ((0 : Nat)) ∧ sm (List.length m)) ∧ curI m = curI m ∧ sm (W ((1 : Int) - curI m)) ∧ sm (W
    (W ((1 : Int) - curI m) * (1031 : Int))) ∧ d = d ∧ sm (bys (hdI d)) ∧ sm (#[(0 : UInt8)].toList ++ bys (hdI d)) ∧ d = d ∧ sm (#[(0 : UInt8)].toList ++ bys (hdI d)
    ++ d) ∧ True ∧ True ∧ True ∧ True ∧ True ∧ True ∧ True ∧ True ∧ True ∧ True ∧ True ∧ True ∧ True ∧ True ∧ True ∧ True ∧ True ∧ True ∧ True ∧ True ∧ True ∧ True ∧
    True ∧ True ∧ True ∧ True ∧ True ∧ True ∧ True ∧ True ∧ True ∧ True ∧ True ∧ True ∧ True) ∧ ((if true = true then [] else List.map Seg.shape [Seg.a (List.length
    m) (1 : Nat) (byteSV m)]) = if true = true then [] else List.map Seg.shape [Seg.a (List.length m) (1 : Nat) (byteSV m)]) ∧ ((sm (List.length m) ∧ (0 : Nat) + (1
    : Nat) = (codI IntKind.u8).n ∧ ∀ (i : Nat), i < List.length m → (if decide (i = (0 : Nat) + (W (W (W ((1 : Int) - curI m) * (1031 : Int)) + n)).toNat) = true then
    ↑((#[(0 : UInt8)].toList ++ bys (hdI d) ++ d).getD n.toNat (0 : UInt8)).toNat else l.getD i (codI IntKind.u8).dft) = (rowL (codI IntKind.u8) (List.length m) fun
    i' => mergeL (decide (i' = (0 : Nat) + (W (W (W ((1 : Int) - curI m) * (1031 : Int)) + n)).toNat)) (setL ((codI IntKind.u8).enc (l.getD ((0 : Nat) + (W (W (W ((1
    : Int) - curI m) * (1031 : Int)) + n)).toNat) (codI IntKind.u8).dft)) (0 : Nat) [SV.int IntKind.u8 ↑((#[(0 : UInt8)].toList ++ bys (hdI d) ++ d).getD n.toNat (0
    : UInt8)).toNat]) ((codI IntKind.u8).enc (l.getD i' (codI IntKind.u8).dft))).getD i (codI IntKind.u8).dft ∧ True) ∧ True) ∧ True)) ∧ (decide (n < ↑(#[(0 : UInt8)].toList
    ++ bys (hdI d) ++ d).length) = false → True ∧ (decide (↑(#[(0 : UInt8)].toList ++ bys (hdI d) ++ d).length ≥ b) = true → (0 : Nat) + List.length m ≤ List.length
    m ∧ (∀ (j : Nat), j < List.length m → isByte ((fun (j : Nat) => (codI IntKind.u8).enc (l.getD j (codI IntKind.u8).dft)) ((0 : Nat) + j)) = true) ∧ True ∧ True ∧
    True ∧ ((bytesOf (List.length m) fun i => (codI IntKind.u8).enc (l.getD ((0 : Nat) + i) (codI IntKind.u8).dft)) = cmS m d b ∧ (61 : Int) = cmE m d b ∧ True) ∧ True)
    ∧ (decide (↑(#[(0 : UInt8)].toList ++ bys (hdI d) ++ d).length ≥ b) = false → (3 : Int) ≠ (0 : Int) ∧ ((0 : Int) ≤ W (W ((1 : Int) - curI m) * (1031 : Int)) ∧ W
    (W ((1 : Int) - curI m) * (1031 : Int)) < ↑(List.length m)) ∧ (0 : Nat) + (W (W ((1 : Int) - curI m) * (1031 : Int))).toNat < List.length m ∧ True ∧ (0 : Nat) +
    List.length m ≤ List.length m ∧ (∀ (j : Nat), j < List.length m → isByte ((fun (i' : Nat) => mergeL (decide (i' = (0 : Nat) + (W (W ((1 : Int) - curI m) * (1031
    : Int))).toNat)) (setL ((codI IntKind.u8).enc (l.getD ((0 : Nat) + (W (W ((1 : Int) - curI m) * (1031 : Int))).toNat) (codI IntKind.u8).dft)) (0 : Nat) [SV.int IntKind.u8
    (IntKind.u8.wrap (W ((rM (List.drop (W (curI m * (1031 : Int))).toNat (List.take (W (W (curI m * (1031 : Int)) + (1031 : Int))).toNat m))).tmod (3 : Int) + (1 :
    Int))))]) ((codI IntKind.u8).enc (l.getD i' (codI IntKind.u8).dft))) ((0 : Nat) + j)) = true) ∧ True ∧ True ∧ True ∧ ((bytesOf (List.length m) fun i => mergeL (decide
    ((0 : Nat) + i = (0 : Nat) + (W (W ((1 : Int) - curI m) * (1031 : Int))).toNat)) (setL ((codI IntKind.u8).enc (l.getD ((0 : Nat) + (W (W ((1 : Int) - curI m) * (1031
    : Int))).toNat) (codI IntKind.u8).dft)) (0 : Nat) [SV.int IntKind.u8 (IntKind.u8.wrap (W ((rM (List.drop (W (curI m * (1031 : Int))).toNat (List.take (W (W (curI
    m * (1031 : Int)) + (1031 : Int))).toNat m))).tmod (3 : Int) + (1 : Int))))]) ((codI IntKind.u8).enc (l.getD ((0 : Nat) + i) (codI IntKind.u8).dft))) = cmS m d b
    ∧ (0 : Int) = cmE m d b ∧ True) ∧ True))))) = vc17 m d b := by kernel_rfl
theorem t17 (m d : Bs) (b : Int) (hdl : d.length ≤ 1000000) (b0 : -9223372036854775808 ≤ b) (b1 : b < 9223372036854775808) : vc17 m d b := by
  rw [← vc17_eq]
  simp [-List.getD_eq_getElem?_getD, W_def, by_def]
  obtain ⟨w1, w2, w3⟩ := cm_W m
  have c := curI_bd m
  have ev := curE_val m
  have w4 : W (curI m * 1031 + 1031) = curI m * 1031 + 1031 := W_id (by omega) (by omega)
  have hbl : (bys (hdI d)).length = 6 := by rw [bys_len, hdI_len]
  have hcm : (0 :: (bys (hdI d) ++ d)) = cmB d := by simp only [cmB]
  have hsl : List.drop (curI m * 1031).toNat (List.take (curI m * 1031 + 1031).toNat m) = slS m (curI m) := by
    simp only [slS]
    rw [show curI m * 1031 + 1031 = (curI m + 1) * 1031 by omega]
  simp only [w1, w2, w3, w4, hbl, hcm, hsl]
  refine ⟨fun h => ?_, fun h => ⟨fun h1 => ?_, fun h1 => ?_⟩⟩
  · have e : cmE m d b = curE m := by simp only [cmE]; rw [if_neg h]
    exact ⟨by simp only [cmS]; rw [e, if_neg (by omega)], e.symm⟩
  · have e : cmE m d b = 9 := by simp only [cmE]; rw [if_pos h, if_pos (by omega)]
    exact ⟨by simp only [cmS]; rw [e, if_neg (by omega)], e.symm⟩
  · obtain ⟨hl, hrd⟩ := curE_ok h
    have hd : d.length ≤ 1024 := by omega
    have e : cmE m d b = if b < d.length + 8 then 61 else 0 := by simp only [cmE]; rw [if_pos h, if_neg (by omega)]
    have es : cmS m d b = (List.range m.length).map (cmAt m d b) := by simp only [cmS]; rw [hl, if_pos (by rw [e]; split <;> omega)]
    have nx : IntKind.u8.wrap (W ((rM (slS m (curI m))).tmod 3 + 1)) = nxt (by' (slS m (curI m)) 0) := by
      obtain ⟨q1, q2, q3⟩ := rM_bd.2 hrd
      rw [q1, Int.tmod_eq_emod_of_nonneg (by omega), W_id (by omega) (by omega), wrap_u8 (by omega) (by omega)]
      simp only [nxt]
    have nb : 0 ≤ nxt (by' (slS m (curI m)) 0) ∧ nxt (by' (slS m (curI m)) 0) < 256 := by simp only [nxt]; omega
    rw [nx, e, es]
    refine ⟨by omega, by omega, hd, by omega, by omega, ⟨?_, fun i hi => ?_⟩, fun n l hJ => ?_⟩
    · simp only [J17]
      refine ⟨by omega, by omega, by omega, ?_⟩
      simp only [wrI]
      refine ⟨rowL_length .., fun j hj => ?_⟩
      rw [recI hj (byteSV_by m j)]
      exact wr_zero m d (Int.le_refl 0) j
    · exact (recI hi (byteSV_by m i)).symm
    · simp only [J17] at hJ
      obtain ⟨j0, j1, j2, j3⟩ := hJ
      have e1 : W (n + 1) = n + 1 := W_id (by omega) (by omega)
      have e4 : W ((1 - curI m) * 1031 + n) = (1 - curI m) * 1031 + n := W_id (by omega) (by omega)
      have j4 := j3
      simp only [wrI] at j4
      rw [e1, e4]
      refine ⟨fun h2 => ⟨fun h3 => ⟨fun j hj => rfl, ?_, by rw [if_pos (by omega)]⟩, fun h3 => ⟨by omega, by omega, by omega, ?_, by omega, fun i hi => ?_⟩⟩,
        fun h2 => ⟨fun h3 => ⟨fun j hj => rfl, ?_, by rw [if_pos (by omega)]⟩, fun h3 => ⟨by omega, by omega, fun j hj => by rw [mrgI]; rfl, ?_, by rw [if_neg (by omega)]⟩⟩⟩
      · simp only [bytesOf]
        refine List.map_congr_left fun j hj => ?_
        rw [show n = min (7 + (d.length : Int)) (max b 0) by omega] at j3
        exact cm_at j3 (List.mem_range.1 hj) (by omega)
      · simp only [J17]
        refine ⟨by omega, by omega, by omega, ?_⟩
        exact wr_set (g := fun i => l.getD i 0) (fun j hj => j4.2 j hj) (by omega) rfl (fun j => rfl)
      · rw [recI hi (v := if decide (i = ((1 - curI m) * 1031 + n).toNat) then by' (cmB d) n.toNat else l.getD i 0) rfl]
        simp
      · simp only [bytesOf]
        refine List.map_congr_left fun j hj => ?_
        rw [show n = min (7 + (d.length : Int)) (max b 0) by omega] at j3
        exact cm_at j3 (List.mem_range.1 hj) (by omega)
      · simp only [bytesOf]
        refine List.map_congr_left fun j hj => ?_
        rw [show n = min (7 + (d.length : Int)) (max b 0) by omega] at j3
        rw [mrgI]
        simp only [Sx.byteOf]
        by_cases q : j = ((1 - curI m) * 1031).toNat
        · rw [decide_eq_true q, if_pos rfl]
          simp only [cmAt]
          rw [if_pos (by omega)]
        · rw [decide_eq_false q, if_neg (by decide)]
          exact cm_at j3 (List.mem_range.1 hj) (by omega)
theorem k17 : TabOK Try.prog T17 := fn_tabA k16 hm Try.func17 (by kernel_rfl) (by kernel_rfl) sSSI.ok (by kernel_rfl) (fun a => A17 a.1 a.2.1 a.2.2) fun a hp => by
  have h := t17 a.1 a.2.1 a.2.2 hp.1 hp.2.1 hp.2.2
  exact h
end Go.Proofs.Nv
