/-
  A range over a function, walked by hand, second part: Zones.
-/
import Derived.Test.YteemgogalahhnaaFiR
namespace Go.Proofs.Fi
open Go Go.Proofs Go.RowKit Go.Shelf
set_option linter.unusedVariables false
set_option linter.unusedSimpArgs false
attribute [local go_sem] Oper.semAt_some
set_option maxRecDepth 100000 in
set_option maxHeartbeats 2000000 in
/-- No zones: no round. -/
theorem iter0_in (F : Fence) (n : Nat) (h26 : F.fn 26) (hro : F.round = none) (l B : Nat) (ad : Option Addr) (cap : Nat) (J : List (Int × Zn) → World → Prop) (W : World)
    (hT : W.cell? ⟨B, 12, none⟩ = some (.slice ad 0 cap)) (h0 : J [] W) :
    CallsIn F n Try.prog 26 (#[.func (.yield l) #[] #[]] ++ #[ptr B, ptr (B + 3), ptr (B + 2), ptr (B + 1)]) W fun e W' => (∃ v, e = .returned v) ∧ J [] W' := by
  refine callsIn_of_wp Try.func26 rfl h26 ?_ hro
  simp only [Try.ntmps26, List.size_toArray, List.length_cons, List.length_nil, Nat.reduceAdd, Nat.reduceSub, Array.replicate_succ, Array.replicate_zero, List.push_toArray, List.append_toArray, List.nil_append, List.cons_append]
  gi_wp2
  gi_loopw [12] (fun i wr => i = vI 0 ∧ J [] wr) (fun _ _ => 0)
  case atStart => exact ⟨rfl, h0⟩
  case round =>
    obtain ⟨rfl, hJs⟩ := hrel
    gi_wp2
    go_end0
    exact ⟨⟨_, rfl⟩, hJs⟩
/-- The slice value sv holds these zones, in a block below n₀. -/
def Zones (n₀ : Nat) (W : World) (sv : Value) (zs : List Zn) : Prop :=
  (zs = [] ∧ ∃ ad cap, sv = .slice ad 0 cap) ∨ ∃ b off cap, sv = .slice (some ⟨b, off, none⟩) zs.length cap ∧ b < n₀ ∧ ∀ j, j < zs.length → ∀ i, i < 9 → W.cell? ⟨b, off + j * 9 + i, none⟩ = some ((zs.getD j default).cells.getD i undef)
theorem Zones.keep {n₀ : Nat} {W W' : World} {sv : Value} {zs : List Zn} (h : Zones n₀ W sv zs) (k : Below n₀ W W') : Zones n₀ W' sv zs := by
  rcases h with h | ⟨b, off, cap, e, hb, hc⟩
  · exact .inl h
  · exact .inr ⟨b, off, cap, e, hb, fun j hj i hi => (k.cell (p := ⟨b, off + j * 9 + i, none⟩) hb).trans (hc j hj i hi)⟩
/-- acting's closure as the law asks for it. -/
theorem iter_stops (F : Fence) (n : Nat) (h26 : F.fn 26) (h27 : F.fn 27) (hro : F.round = none) (hn : 2 ≤ n) (B n₀ : Nat) (sv : Value) (zs : List Zn) (hreach : zs.length ≤ 9223372036854775807) (c lv px py : Int) (w : World) (hsz : n₀ ≤ w.heap.size ∧ B + 4 ≤ w.heap.size)
    (hT : w.cell? ⟨B, 12, none⟩ = some sv) (hC : w.cell? ⟨B + 1, 0, none⟩ = some (.int .u32 c)) (hL : w.cell? ⟨B + 2, 0, none⟩ = some (vI lv)) (hP : w.cell? ⟨B + 3, 0, none⟩ = some (vI px)) (hQ : w.cell? ⟨B + 3, 1, none⟩ = some (vI py)) (hz : Zones n₀ w sv zs) :
    SeqStopsK F n Try.prog 26 #[ptr B, ptr (B + 3), ptr (B + 2), ptr (B + 1)] (fun x : Int × Zn => #[vI x.1, .agg x.2.cells]) (KpB n₀ B) (fun xs => xs = come (act c lv px py) zs zs.length) (fun _ => True) zs.length w := fun l J Jx W hW hJ hJx hY h0 => by
  have hs := hW.size
  have cl : ∀ {b o : Nat} {v : Value}, b < w.heap.size → w.cell? ⟨b, o, none⟩ = some v → W.cell? ⟨b, o, none⟩ = some v := fun {b o v} hb h => (hW.cell (p := ⟨b, o, none⟩) hb).trans h
  rcases hz.keep (hW.mono hsz.1) with ⟨rfl, ad, cap, rfl⟩ | ⟨b, off, cap, rfl, hb, hcs⟩
  · exact (iter0_in F n h26 hro l B ad cap J W (cl (by omega) hT) h0).mono fun e W' ⟨he, hj⟩ => ⟨he, .inl ⟨_, rfl, hj⟩⟩
  · exact iter_in F n h26 h27 hro hn l B n₀ b off cap zs hreach c lv px py hb J Jx W hJ hY ⟨by omega, by omega⟩ (cl (by omega) hT) (cl (by omega) hC) (cl (by omega) hL) (cl (by omega) hP) (cl (by omega) hQ) hcs h0
theorem ownsRow_mono {w : World} {b b' : Nat} {e : TypeId} {size : Nat} {v : Value} {n : Nat} {xs : List Value} (h : w.ownsRow b e size v n xs) (hb : b' ≤ b) : w.ownsRow b' e size v n xs := by
  obtain ⟨h1, h2 | ⟨g, cap, cur, e1, e2, r⟩⟩ := h
  · exact ⟨h1, .inl h2⟩
  · exact ⟨h1, .inr ⟨g, cap, cur, e1, by omega, r⟩⟩
/-- Behind an append into a box: what else lies as it lay. -/
theorem appended2 {W w1 : World} {base B : Nat} {e : TypeId} {size : Nat} {v v' : Value} {k : Nat} {xs : List Value} {tmp : Obj} (hrow : W.ownsRow base e size v k xs) (hb : base ≤ W.heap.size) (hgrow : (W.alloc tmp).grownBy w1 v.ownBlock) :
    ∀ j, j < base → j ≠ B → (w1.setCell ⟨B, 0, none⟩ v').heap[j]? = W.heap[j]? := fun j hj hne => by
  have h1 : (W.alloc tmp).heap[j]? = W.heap[j]? := (World.grownBy_alloc W tmp none).block j (by omega) (by simp)
  have h2 : w1.heap[j]? = (W.alloc tmp).heap[j]? := hgrow.block j (by simp; omega) (fun e1 => by
    rcases hrow.2 with ⟨rfl, _⟩ | ⟨g, cap, cur, rfl, hg, _⟩
    · simp [Value.ownBlock] at e1
    · obtain rfl : j = g := by simpa [Value.ownBlock] using e1
      omega)
  have h3 : (w1.setCell ⟨B, 0, none⟩ v').heap[j]? = w1.heap[j]? := (grownBy_setCell' w1 B v').block j (by
    have : (W.alloc tmp).heap.size ≤ w1.heap.size := hgrow.size
    simp at this; omega) (fun e1 => hne (by cases e1; rfl))
  exact h3.trans (h2.trans h1)
theorem infoI : (Try.prog.info? 3).map (fun i => (i.zero, i.size, i.bytes)) = some (some (.int .i64 0), 1, 8) := by kernel_rfl
theorem kpB_putObj {n₀ B : Nat} {w W : World} (h0 : n₀ ≤ w.heap.size) (hB : B + 4 ≤ w.heap.size) (l : Nat) (o o' : Obj) (hl : w.heap.size ≤ l) (ho : W.heap[l]? = some o) : KpB n₀ B W (W.putObj l o') := by
  have hg := grownBy_putObj' W l o'
  have lt := (Array.getElem?_eq_some_iff.1 ho).1
  refine ⟨(Below.refl n₀ W).grown hg (by omega) (fun k e => by cases e; omega), fun k h1 h2 => hg.block k (by omega) (fun e => by cases e; omega)⟩
theorem alloc_old {W : World} {k : Nat} (o : Obj) (h : k < W.heap.size) : (W.alloc o).heap[k]? = W.heap[k]? := (World.grownBy_alloc W o none).block k h (by simp)
theorem cell_of {W : World} {b o : Nat} {cs : Array Value} {t : TypeId} {fr : Nat × Nat} (h : W.heap[b]? = some (.cells cs t fr)) : W.cell? ⟨b, o, none⟩ = cs[o]? := by simp [World.cell?, h]
theorem boxes_facts (W : World) (tc : Array Value) (c lv px py : Int) : (boxes W tc c lv px py).heap.size = W.heap.size + 4 ∧ (boxes W tc c lv px py).heap[W.heap.size]? = some (.cells tc 36 (0, 0)) ∧ (boxes W tc c lv px py).heap[W.heap.size + 1]? = some (.cells #[.int .u32 c] 44 (0, 0)) ∧
    (boxes W tc c lv px py).heap[W.heap.size + 2]? = some (.cells #[vI lv] 3 (0, 0)) ∧ (boxes W tc c lv px py).heap[W.heap.size + 3]? = some (.cells #[vI px, vI py] 23 (0, 0)) ∧ (∀ k, k < W.heap.size → (boxes W tc c lv px py).heap[k]? = W.heap[k]?) ∧ Below W.heap.size W (boxes W tc c lv px py) := by
  have e0 := World.alloc_heap_new W (.cells tc 36)
  have e1 := World.alloc_heap_new (W.alloc (.cells tc 36)) (.cells #[.int .u32 c] 44)
  have e2 := World.alloc_heap_new ((W.alloc (.cells tc 36)).alloc (.cells #[.int .u32 c] 44)) (.cells #[vI lv] 3)
  have e3 := World.alloc_heap_new (((W.alloc (.cells tc 36)).alloc (.cells #[.int .u32 c] 44)).alloc (.cells #[vI lv] 3)) (.cells #[vI px, vI py] 23)
  simp only [World.size_alloc] at e0 e1 e2 e3
  unfold boxes
  refine ⟨by simp, ?_, ?_, ?_, ?_, fun k hk => ?_, (((Below.refl _ W).alloc (Nat.le_refl _) _).alloc (by simp) _).alloc (by simp; omega) _ |>.alloc (by simp; omega) _⟩
  · rw [alloc_old _ (by simp; omega), alloc_old _ (by simp; omega), alloc_old _ (by simp)]; exact e0
  · rw [alloc_old _ (by simp), alloc_old _ (by simp)]; exact e1
  · rw [alloc_old _ (by simp)]; exact e2
  · exact e3
  · rw [alloc_old _ (by simp; omega), alloc_old _ (by simp; omega), alloc_old _ (by simp; omega), alloc_old _ hk]
end Go.Proofs.Fi
