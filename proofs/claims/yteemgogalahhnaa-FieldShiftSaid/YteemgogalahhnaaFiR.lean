/-
  A range over a function, walked by hand: the zones that act, their numbers, their accelerations.
-/
import Derived.RangeFuncNested
import Derived.RangeFuncBound
import Derived.RangeFuncCalls
import Derived.RangeFuncLeaves
import Derived.RangeFuncBox
import Derived.Shelf.Abstract
import Derived.Shelf.RegionOpen
import Derived.WalkKit
import Derived.OwnWalkIn
import Derived.TacticsInMore
import Derived.LoopNIn
import Derived.LoopIn
import Derived.Maps.AppendAt
import Derived.Test.YteemgogalahhnaaProg
namespace Go.Proofs.Fi
open Go Go.Proofs Go.RowKit Go.Shelf
set_option linter.unusedVariables false
set_option linter.unusedSimpArgs false
attribute [local go_sem] Oper.semAt_some
abbrev ptr (b : Nat) : Value := .pointer (some ⟨b, 0, none⟩)
abbrev vI (n : Int) : Value := .int .i64 n
/-- The world behind acting: four boxes. -/
def boxes (w : World) (tc : Array Value) (c lv px py : Int) : World := (((w.alloc (.cells tc 36)).alloc (.cells #[.int .u32 c] 44)).alloc (.cells #[vI lv] 3)).alloc (.cells #[vI px, vI py] 23)
set_option maxRecDepth 100000 in
set_option maxHeartbeats 2000000 in
theorem acting_in (F : Fence) (n : Nat) (h24 : F.fn 24) (hro : F.round = none) (tc : Array Value) (c lv px py : Int) (w : World) :
    CallsIn F n Try.prog 24 #[.agg tc, .int .u32 c, vI lv, .agg #[vI px, vI py]] w fun e w' => e = .returned (.func (.func 26) #[] #[ptr w.heap.size, ptr (w.heap.size + 3), ptr (w.heap.size + 2), ptr (w.heap.size + 1)]) ∧ w' = boxes w tc c lv px py := by
  refine callsIn_of_wp Try.func24 rfl h24 ?_ hro
  simp only [Try.ntmps24, List.size_toArray, List.length_cons, List.length_nil, Nat.reduceAdd, Nat.reduceSub, Array.replicate_succ, Array.replicate_zero, List.push_toArray, List.append_toArray, List.nil_append, List.cons_append]
  gi_wp2
  go_ret
  exact ⟨rfl, rfl⟩
/-- Does a coil let a zone act? -/
def enB (c k : Int) : Bool := k == -1 || (decide (0 ≤ k ∧ k ≤ 31) && bits .and .u32 (c / 2 ^ k.toNat) 1 == 1)
set_option maxRecDepth 100000 in
set_option maxHeartbeats 2000000 in
theorem en_in (F : Fence) (n : Nat) (h27 : F.fn 27) (hro : F.round = none) (c k : Int) (w : World) :
    CallsIn F n Try.prog 27 #[.int .u32 c, vI k] w fun e w' => e = .returned (.bool (enB c k)) ∧ w' = w := by
  refine callsIn_of_wp Try.func27 rfl h27 ?_ hro
  simp only [Try.ntmps27, List.size_toArray, List.length_cons, List.length_nil, Nat.reduceAdd, Nat.reduceSub, Array.replicate_succ, Array.replicate_zero, List.push_toArray, List.append_toArray, List.nil_append, List.cons_append]
  gi_wp2
  · rename_i h1
    go_ret
    exact ⟨by simp [enB, h1], rfl⟩
  · rename_i h1 h2 h3
    go_ret
    exact ⟨by simp [enB, h2, h3], rfl⟩
  · rename_i h1 h2 h3
    go_ret
    exact ⟨by simp [enB, h2, show ¬ k ≤ 31 by omega], rfl⟩
  · rename_i h1 h2
    go_ret
    exact ⟨by simp [enB, show ¬ 0 ≤ k by omega], rfl⟩
/-- A zone. -/
structure Zn where
  name : List UInt8
  level : Int
  lox : Int
  loy : Int
  hix : Int
  hiy : Int
  hx : Int
  hy : Int
  coil : Int
  deriving DecidableEq
instance : Inhabited Zn := ⟨⟨[], 0, 0, 0, 0, 0, 0, 0, 0⟩⟩
def Zn.cells (z : Zn) : Array Value := #[.string ⟨z.name.toArray⟩, vI z.level, vI z.lox, vI z.loy, vI z.hix, vI z.hiy, vI z.hx, vI z.hy, vI z.coil]
/-- Does it act at a place of a level? -/
def act (c lv px py : Int) (z : Zn) : Bool := decide (z.lox < px) && decide (px < z.hix) && decide (z.loy < py) && decide (py < z.hiy) && z.level == lv && enB c z.coil
theorem act_iff {c lv px py : Int} {z : Zn} : act c lv px py z = true ↔ z.lox < px ∧ px < z.hix ∧ z.loy < py ∧ py < z.hiy ∧ z.level = lv ∧ enB c z.coil = true := by
  simp [act, and_assoc]
theorem cell_kept_alloc {W : World} {a : Addr} {v : Value} (o : Obj) (h : W.cell? a = some v) : (W.alloc o).cell? a = some v := cell_kept h (World.grownBy_alloc W o none) (fun r e => by cases e)
/-- The zones that have come when the first k have been asked. -/
def come (p : Zn → Bool) (zs : List Zn) : Nat → List (Int × Zn)
  | 0 => []
  | k + 1 => if p (zs.getD k default) then come p zs k ++ [((k : Int), zs.getD k default)] else come p zs k
theorem come_len (p : Zn → Bool) (zs : List Zn) : ∀ k, (come p zs k).length ≤ k
  | 0 => Nat.le_refl _
  | k + 1 => by
    have := come_len p zs k
    simp only [come]; split <;> simp <;> omega
/-- What a round keeps: what lay below n₀, and the four boxes from B on. -/
def KpB (n₀ B : Nat) (W W' : World) : Prop := Below n₀ W W' ∧ ∀ k, B ≤ k → k < B + 4 → W'.heap[k]? = W.heap[k]?
theorem KpB.refl (n₀ B : Nat) (W : World) : KpB n₀ B W W := ⟨Below.refl _ _, fun _ _ _ => rfl⟩
theorem KpB.trans {n₀ B : Nat} {a b c : World} (h : KpB n₀ B a b) (k : KpB n₀ B b c) : KpB n₀ B a c := ⟨h.1.trans k.1, fun i h1 h2 => (k.2 i h1 h2).trans (h.2 i h1 h2)⟩
theorem KpB.alloc {n₀ B : Nat} {W W' : World} (h : KpB n₀ B W W') (h1 : n₀ ≤ W'.heap.size) (h2 : B + 4 ≤ W'.heap.size) (o : Obj) : KpB n₀ B W (W'.alloc o) :=
  ⟨h.1.alloc h1 o, fun k k1 k2 => ((World.grownBy_alloc W' o none).block k (by omega) (by simp)).trans (h.2 k k1 k2)⟩
theorem KpB.cell {n₀ B : Nat} {W W' : World} (h : KpB n₀ B W W') {b o : Nat} (hb : b < n₀ ∨ (B ≤ b ∧ b < B + 4)) : W'.cell? ⟨b, o, none⟩ = W.cell? ⟨b, o, none⟩ := by
  have e : W'.heap[b]? = W.heap[b]? := by
    rcases hb with hb | ⟨h1, h2⟩
    · exact h.1.block b hb
    · exact h.2 b h1 h2
  simp only [World.cell?, e]
set_option maxRecDepth 100000 in
set_option maxHeartbeats 4000000 in
/-- The closure of acting, for every body that keeps what it must. -/
theorem iter_in (F : Fence) (n : Nat) (h26 : F.fn 26) (h27 : F.fn 27) (hro : F.round = none) (hn : 2 ≤ n) (l B n₀ b off cap : Nat) (zs : List Zn) (hreach : zs.length ≤ 9223372036854775807) (c lv px py : Int) (hb : b < n₀) (J Jx : List (Int × Zn) → World → Prop) (W : World) (hJ : AbidesFrom W.heap.size J)
    (hY : ∀ pre x W1, J pre W1 → pre.length < zs.length → YieldAt F (n - 1) Try.prog l #[vI x.1, .agg x.2.cells] W1 fun e W' =>
      (e = .returned (.bool true) ∧ J (pre ++ [x]) W' ∧ KpB n₀ B W1 W') ∨ (e = .returned (.bool false) ∧ Jx (pre ++ [x]) W'))
    (hsz : n₀ ≤ W.heap.size ∧ B + 4 ≤ W.heap.size)
    (hT : W.cell? ⟨B, 12, none⟩ = some (.slice (some ⟨b, off, none⟩) zs.length cap)) (hC : W.cell? ⟨B + 1, 0, none⟩ = some (.int .u32 c)) (hL : W.cell? ⟨B + 2, 0, none⟩ = some (vI lv)) (hP : W.cell? ⟨B + 3, 0, none⟩ = some (vI px)) (hQ : W.cell? ⟨B + 3, 1, none⟩ = some (vI py))
    (hz : ∀ j, j < zs.length → ∀ i, i < 9 → W.cell? ⟨b, off + j * 9 + i, none⟩ = some ((zs.getD j default).cells.getD i undef)) (h0 : J [] W) :
    CallsIn F n Try.prog 26 (#[.func (.yield l) #[] #[]] ++ #[ptr B, ptr (B + 3), ptr (B + 2), ptr (B + 1)]) W fun e W' => (∃ v, e = .returned v) ∧
      ((∃ xs, xs = come (act c lv px py) zs zs.length ∧ J xs W') ∨ (∃ pre, True ∧ Jx pre W')) := by
  refine callsIn_of_wp Try.func26 rfl h26 ?_ hro
  simp only [Try.ntmps26, List.size_toArray, List.length_cons, List.length_nil, Nat.reduceAdd, Nat.reduceSub, Array.replicate_succ, Array.replicate_zero, List.push_toArray, List.append_toArray, List.nil_append, List.cons_append]
  gi_wp2
  gi_loopw [12] (fun i wr => ∃ k : Nat, k ≤ zs.length ∧ i = vI k ∧ J (come (act c lv px py) zs k) wr ∧ KpB n₀ B W wr ∧ W.heap.size ≤ wr.heap.size)
    (fun i _ => zs.length - (intOf i).toNat)
  case atStart => exact ⟨0, Nat.zero_le _, rfl, h0, KpB.refl _ _ _, Nat.le_refl _⟩
  case round =>
    obtain ⟨k, hk, rfl, hJs, hnx, hsz2⟩ := hrel
    by_cases hlt : k < zs.length
    · have hc : ∀ i, i < 9 → wr.cell? ⟨b, off + k * 9 + i, none⟩ = some ((zs.getD k default).cells.getD i undef) := fun i hi => (hnx.cell (.inl hb)).trans (hz k hlt i hi)
      have c0 : wr.cell? ⟨b, off + k * 9, none⟩ = some (.string ⟨(zs.getD k default).name.toArray⟩) := hc 0 (by omega)
      have c1 : wr.cell? ⟨b, off + k * 9 + 1, none⟩ = some (vI (zs.getD k default).level) := hc 1 (by omega)
      have c2 : wr.cell? ⟨b, off + k * 9 + 2, none⟩ = some (vI (zs.getD k default).lox) := hc 2 (by omega)
      have c3 : wr.cell? ⟨b, off + k * 9 + 3, none⟩ = some (vI (zs.getD k default).loy) := hc 3 (by omega)
      have c4 : wr.cell? ⟨b, off + k * 9 + 4, none⟩ = some (vI (zs.getD k default).hix) := hc 4 (by omega)
      have c5 : wr.cell? ⟨b, off + k * 9 + 5, none⟩ = some (vI (zs.getD k default).hiy) := hc 5 (by omega)
      have c6 : wr.cell? ⟨b, off + k * 9 + 6, none⟩ = some (vI (zs.getD k default).hx) := hc 6 (by omega)
      have c7 : wr.cell? ⟨b, off + k * 9 + 7, none⟩ = some (vI (zs.getD k default).hy) := hc 7 (by omega)
      have c8 : wr.cell? ⟨b, off + k * 9 + 8, none⟩ = some (vI (zs.getD k default).coil) := hc 8 (by omega)
      clear hc
      have h1n : 1 ≤ n := by omega
      obtain ⟨z, ez⟩ : ∃ z, zs.getD k default = z := ⟨_, rfl⟩
      rw [ez] at c0 c1 c2 c3 c4 c5 c6 c7 c8
      have hC' := (hnx.cell (b := B + 1) (o := 0) (.inr (by omega))).trans hC
      have hL' := (hnx.cell (b := B + 2) (o := 0) (.inr (by omega))).trans hL
      have hP' := (hnx.cell (b := B + 3) (o := 0) (.inr (by omega))).trans hP
      have hQ' := (hnx.cell (b := B + 3) (o := 1) (.inr (by omega))).trans hQ
      clear hz hT hC hL hP hQ
      have hC2 : ∀ o, (wr.alloc o).cell? ⟨B + 1, 0, none⟩ = some (.int .u32 c) := fun o => cell_kept_alloc _ hC'
      have hL2 : ∀ o, (wr.alloc o).cell? ⟨B + 2, 0, none⟩ = some (vI lv) := fun o => cell_kept_alloc _ hL'
      have hP2 : ∀ o, (wr.alloc o).cell? ⟨B + 3, 0, none⟩ = some (vI px) := fun o => cell_kept_alloc _ hP'
      have hQ2 : ∀ o, (wr.alloc o).cell? ⟨B + 3, 1, none⟩ = some (vI py) := fun o => cell_kept_alloc _ hQ'
      have grow : ∀ o : Obj, J (come (act c lv px py) zs k) (wr.alloc o) := fun o => hJ _ _ _ none hJs (World.grownBy_alloc wr o none) (fun r e => by cases e)
      have kp : ∀ o, KpB n₀ B W (wr.alloc o) := fun o => hnx.alloc (by omega) (by omega) o
      have hw : wrap64 ((k : Int) + 1) = ((k + 1 : Nat) : Int) := by
        simp only [wrap64]; omega
      have miss : ¬ act c lv px py z = true → come (act c lv px py) zs (k + 1) = come (act c lv px py) zs k := fun h => by
        simp only [come, ez]; rw [if_neg h]
      have hit : act c lv px py z = true → come (act c lv px py) zs (k + 1) = come (act c lv px py) zs k ++ [((k : Int), z)] := fun h => by
        simp only [come, ez]; rw [if_pos h]
      have hlen := come_len (act c lv px py) zs k
      gi_wp2_with (gi_at_call 27; refine (en_in F (n - 1) h27 hro _ _ _).mono ?_; rintro e w' ⟨rfl, rfl⟩)
      all_goals try (refine ⟨fun _ h => (by cases h), ?_⟩; gi_wp2)
      case isTrue =>
        have h1 : z.lox < px := by assumption
        have h2 : px < z.hix := by assumption
        have h3 : z.loy < py := by assumption
        have h4 : py < z.hiy := by assumption
        have h5 : z.level = lv := by assumption
        have h6 : enB c z.coil = true := by assumption
        have ha := act_iff.2 ⟨h1, h2, h3, h4, h5, h6⟩
        obtain ⟨fn, tmps, assign, body, hy, hR⟩ := hY _ ((k : Int), z) _ (grow (Obj.cells z.cells 50)) (by omega)
        simp only [Zn.cells] at hy hR
        rw [h5] at hy hR
        simp only [vI] at hy hR
        rw [hy]
        gi_wp2
        refine hR.mono ?_
        rintro e W3 (⟨rfl, hJ3, hk3⟩ | ⟨rfl, hJx3⟩)
        · gi_wp2
          go_roundw
          case rel =>
            refine ⟨k + 1, by omega, by simp, by rw [hit ha]; exact hJ3, (kp _).trans hk3, ?_⟩
            have := hk3.1.size
            simp at this; omega
          case measure => simp [intOf]; omega
        · gi_wp2
          refine bodyPost_ret (results_none rfl _ _ _) rfl ?_
          exact ⟨⟨_, rfl⟩, .inr ⟨_, trivial, hJx3⟩⟩
      all_goals
        have hm : ¬ act c lv px py z = true := by
          rw [act_iff]
          rintro ⟨a1, a2, a3, a4, a5, a6⟩
          first | omega | contradiction
        refine ⟨⟨k + 1, by omega, by simp, by rw [miss hm]; exact grow _, kp _, by simp; omega⟩, by simp [intOf]; omega⟩
    · obtain rfl : k = zs.length := by omega
      gi_wp2
      go_end0
      exact ⟨⟨_, rfl⟩, .inl ⟨_, rfl, hJs⟩⟩
attribute [irreducible] act enB
end Go.Proofs.Fi
