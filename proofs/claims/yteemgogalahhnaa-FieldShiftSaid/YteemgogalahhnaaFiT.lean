/-
  A range over a function, walked by hand, third part: Zones.
-/
import Derived.Test.YteemgogalahhnaaFiS
namespace Go.Proofs.Fi
open Go Go.Proofs Go.RowKit Go.Shelf
set_option linter.unusedVariables false
set_option linter.unusedSimpArgs false
attribute [local go_sem] Oper.semAt_some
/-- A fact that the walk shall not use. -/
def Inert (p : Prop) : Prop := p
set_option maxRecDepth 100000 in
set_option maxHeartbeats 4000000 in
theorem zones_body (F : Fence) (n l : Nat) (Q : Exit → Act → World → Prop) (v0 v1 v2 v3 v4 v5 v6 v7 v8 v9 v10 v11 v12 v13 v14 v15 v16 v17 : Value) (W0 : World) (c lv px py : Int) (w W : World) (v : Value) (x : Int × Zn) (pre : List (Int × Zn)) (zs : List Zn) (hreach : zs.length ≤ 1000000) (hlt : pre.length < zs.length)  (i0 : TypeInfo) (hi : Try.prog.info? 3 = some i0)
 (hz0 : i0.zero = some (Value.int IntKind.i64 0)) (hz1 : i0.size = 1) (hz2 : i0.bytes = 8) (hB : Below w.heap.size w W) (h7 : w.heap.size + 7 ≤ W.heap.size) (hv : Boxed W (w.heap.size + 2) 24 v) (hrow : W.ownsRow (w.heap.size + 7) 3 1 v pre.length (pre.map fun x => vI x.1)) (hQ : ∀ a W', KeepsOthers W W' → Below w.heap.size W W' → (∀ j, j < w.heap.size + 7 → j ≠ w.heap.size + 2 → W'.heap[j]? = W.heap[j]?) → (∃ v', Boxed W' (w.heap.size + 2) 24 v' ∧ W'.ownsRow (w.heap.size + 7) 3 1 v' (pre.length + 1) ((pre.map fun x => vI x.1) ++ [vI x.1])) → Q .normal a W') :
  Code.wpIn (F.inRound l) (n - 1 - 1) Try.prog
    (Code.block 1
      (Code.region 4
        #[{ dst := some 18, op := Op.load 24 (Operand.tmp 9), type := 24, pos := "field.go:31", after := #[],
            guard := none },
          { dst := some 19, op := Op.move (Operand.tmp 10), type := 3, pos := "field.go:31", after := #[],
            guard := none },
          { dst := some 20, op := Op.buildSlice 24 1 #[(0, Operand.tmp 19)], type := 24, pos := "field.go:31",
            after := #[{ on := 1, ground := Ground.data }], guard := none },
          { dst := some 21,
            op :=
              Op.call
                { callee := Callee.builtin Builtin.append, args := #[Operand.tmp 18, Operand.tmp 20],
                  argTypes := #[24, 24] },
            type := 24, pos := "field.go:31",
            after := #[{ on := 0, ground := Ground.data }, { on := 2, ground := Ground.data }], guard := none },
          { dst := none, op := Op.store 24 (Operand.tmp 9) (Operand.tmp 21), type := 0, pos := "field.go:31",
            after :=
              #[{ on := 3, ground := Ground.data }, { on := 3, ground := Ground.chain },
                { on := 0, ground := Ground.phase }, { on := 1, ground := Ground.phase },
                { on := 2, ground := Ground.phase }, { on := 3, ground := Ground.phase }],
            guard := none }]
        false)) Q
    {
      tmps :=
        #[Value.agg #[v0, v1, v2, v3, v4, v5, v6, v7, v8, v9, v10, v11, v12, v13, v14, v15, v16, v17],
              Value.int IntKind.u32 c, vI lv, Value.agg #[vI px, vI py], ptr w.heap.size, undef, undef,
              ptr (w.heap.size + 1), Value.slice none 0 0, ptr (w.heap.size + 2), vI x.fst,
              Value.agg #[v0, v1, v2, v3, v4, v5, v6, v7, v8, v9, v10, v11, v12, v13, v14, v15, v16, v17],
              Value.int IntKind.u32 c, vI lv, Value.agg #[vI px, vI py],
              Value.func (Fn.func 26) #[]
                #[ptr W0.heap.size, ptr (W0.heap.size + 3), ptr (W0.heap.size + 2), ptr (W0.heap.size + 1)],
              vI x.fst, Value.agg x.snd.cells, undef, undef, undef, undef, undef],
      defers := [] }
    W := by
    have hc := hv.cell
    gi_wp2_with (gi_at_builtin; refine wpListIn_append_own _ rfl _ _ 24 rfl (w.heap.size + 7) 3 i0 (.int .i64 0) 1 8 Try.underlying24 hi hz0 hz1 hz2 rfl (by decide) _ _ _ rfl (hrow.alloc _) ⟨W.heap.size, 0, none⟩ 1 1 [vI x.1] rfl rfl (cell_one_new _ _ _) (by simp [Value.oneCell']) (by simp [Go.maxLen]; omega) (by omega) (by simp; omega) ?_; intro v' w1 hown' hgrow _; obtain ⟨g', cap', rfl⟩ := ownsRow_succ hown'; have ap : Inert _ := appended2 (B := w.heap.size + 2) (v' := .slice (some ⟨g', 0, none⟩) (pre.length + 1) cap') hrow h7 hgrow; obtain ⟨hv1, hv2, hr2, hk2, hb2⟩ := hv.appended (by decide) (ownsRow_mono hrow (b' := w.heap.size) (by omega)) hB.size (by omega) (ownsRow_mono hown' (by omega)) hgrow; have hc1 := hv1.cell; have hf1 := hv1.frozen)
    unfold Inert at ap
    refine hQ _ _ hk2 hb2 ap ⟨_, hv2, ?_⟩
    exact hown'.kept (grownBy_setCell' w1 (w.heap.size + 2) (.slice (some ⟨g', 0, none⟩) (pre.length + 1) cap')) (.inr (hv1.not_row (by decide) hown').symm)
set_option maxRecDepth 100000 in
set_option maxHeartbeats 40000000 in
theorem zones_in (F : Fence) (n : Nat) (h17 : F.fn 17) (h24 : F.fn 24) (h26 : F.fn 26) (h27 : F.fn 27) (hro : F.round = none) (hn : 4 ≤ n) (v0 v1 v2 v3 v4 v5 v6 v7 v8 v9 v10 v11 v12 v13 v14 v15 v16 v17 : Value) (zs : List Zn) (hreach : zs.length ≤ 1000000) (c lv px py : Int) (w : World) (hz : Zones w.heap.size w v12 zs) :
    CallsIn F n Try.prog 17 #[.agg #[v0, v1, v2, v3, v4, v5, v6, v7, v8, v9, v10, v11, v12, v13, v14, v15, v16, v17], .int .u32 c, vI lv, .agg #[vI px, vI py]] w fun e W' =>
      ∃ v, e = .returned v ∧ W'.ownsRow w.heap.size 3 1 v (come (act c lv px py) zs zs.length).length ((come (act c lv px py) zs zs.length).map fun x => vI x.1) ∧ Below w.heap.size w W' := by
  have h1 : 1 ≤ n := by omega
  obtain ⟨i0, hi, hz0, hz1, hz2⟩ := info_parts infoI
  refine callsIn_of_wp_marks Try.func17 rfl h17 ?_ hro
  simp only [Try.ntmps17, List.size_toArray, List.length_cons, List.length_nil, Nat.reduceAdd, Nat.reduceSub, Array.replicate_succ, Array.replicate_zero, List.push_toArray, List.append_toArray, List.nil_append, List.cons_append]
  gi_wp2_with (gi_at_call 24; refine (acting_in F (n - 1) h24 hro _ _ _ _ _ _).mono ?_; rintro e w' ⟨rfl, rfl⟩)
  obtain ⟨W0, hW0⟩ : ∃ W0, (((w.alloc (Obj.cells #[v0, v1, v2, v3, v4, v5, v6, v7, v8, v9, v10, v11, v12, v13, v14, v15, v16, v17] 36)).alloc (Obj.cells #[vI px, vI py] 23)).alloc (Obj.cells #[Value.slice none 0 0] 24)) = W0 := ⟨_, rfl⟩
  have s0 : W0.heap.size = w.heap.size + 3 := by rw [← hW0]; simp
  have bO0 : Boxed W0 (w.heap.size + 2) 24 (.slice none 0 0) := by
    have := Boxed.new ((w.alloc (Obj.cells #[v0, v1, v2, v3, v4, v5, v6, v7, v8, v9, v10, v11, v12, v13, v14, v15, v16, v17] 36)).alloc (Obj.cells #[vI px, vI py] 23)) 24 (.slice none 0 0)
    rw [hW0] at this
    simpa using this
  have hB0 : Below w.heap.size w W0 := by
    rw [← hW0]
    exact (((Below.refl _ w).alloc (Nat.le_refl _) _).alloc (by simp) _).alloc (by simp; omega) _
  rw [hW0]
  have bf := boxes_facts W0 #[v0, v1, v2, v3, v4, v5, v6, v7, v8, v9, v10, v11, v12, v13, v14, v15, v16, v17] c lv px py
  have eS : w.heap.size + 1 + 1 + 1 = W0.heap.size := by omega
  rw [eS]
  obtain ⟨W1, hW1⟩ : ∃ W1, boxes W0 #[v0, v1, v2, v3, v4, v5, v6, v7, v8, v9, v10, v11, v12, v13, v14, v15, v16, v17] c lv px py = W1 := ⟨_, rfl⟩
  rw [hW1] at bf ⊢
  obtain ⟨s1, fT, fC, fL, fP, fO, fB⟩ := bf
  have bO : Boxed W1 (w.heap.size + 2) 24 (.slice none 0 0) := (fO _ (by omega)).trans bO0
  have hB1 : Below w.heap.size w W1 := hB0.trans (fB.mono (by omega))
  clear fO fB hB0 bO0 hW0 hW1
  refine wpIn_rangeFunc_ownG hro h1 (gf := 26) (lb := #[ptr W0.heap.size, ptr (W0.heap.size + 3), ptr (W0.heap.size + 2), ptr (W0.heap.size + 1)]) rfl h26 (enters_of Try.func26 (by kernel_rfl) rfl)
    (iter_stops F (n - 1) h26 h27 hro (by omega) W0.heap.size w.heap.size v12 zs (by omega) c lv px py W1 ⟨by omega, by omega⟩ (by rw [cell_of fT]; rfl) (by rw [cell_of fC]; rfl) (by rw [cell_of fL]; rfl) (by rw [cell_of fP]; rfl) (by rw [cell_of fP]; rfl) (hz.keep hB1)) (fun h k => h.trans k) (fun W l o o' hl ho _ _ => kpB_putObj (by omega) (by omega) l o o' hl ho) (Below.refl _ _) (fun _ => rfl)
    (fun pre W => (∃ v, Boxed W (w.heap.size + 2) 24 v ∧ W.ownsRow (w.heap.size + 7) 3 1 v pre.length (pre.map fun x => vI x.1) ∧ True) ∧ (Below w.heap.size w W ∧ w.heap.size + 7 ≤ W.heap.size))
    (fun _ _ _ => False)
    (OwnFrom.and (Own.from (holdsRow_own (w.heap.size + 7) (w.heap.size + 2) 24 3 1 (fun pre : List (Int × Zn) => pre.length) (fun pre => pre.map fun x => vI x.1) (fun pre v => True)) _) (OwnFrom.and (ownFrom_below (Nat.le_refl _) (by omega)) (fun _ _ _ _ hs hg _ => Nat.le_trans hs hg.size)))
    (fun _ _ _ _ _ hs _ _ => hs)
    ⟨⟨_, bO, World.ownsRow_nil _ _ _ _, trivial⟩, hB1, by omega⟩
    (fun x => { tmps := #[.agg #[v0, v1, v2, v3, v4, v5, v6, v7, v8, v9, v10, v11, v12, v13, v14, v15, v16, v17], .int .u32 c, vI lv, .agg #[vI px, vI py], ptr w.heap.size, undef, undef, ptr (w.heap.size + 1), .slice none 0 0, ptr (w.heap.size + 2), vI x.1,
      .agg #[v0, v1, v2, v3, v4, v5, v6, v7, v8, v9, v10, v11, v12, v13, v14, v15, v16, v17], .int .u32 c, vI lv, .agg #[vI px, vI py], .func (.func 26) #[] #[ptr W0.heap.size, ptr (W0.heap.size + 3), ptr (W0.heap.size + 2), ptr (W0.heap.size + 1)], vI x.1, .agg x.2.cells, undef, undef, undef, undef, undef], defers := [] }) ?assign ?body ?done ?stop
  case assign =>
    intro l x W K hK
    have hK := hK
    revert hK
    simp (config := { maxSteps := 1000000 }) only [List.zip_toArray, List.zip_cons_cons, List.zip_nil_right, List.foldl_toArray', List.foldl_toArray, List.foldl_cons, List.foldl_nil, List.setIfInBounds_toArray, List.set_cons_zero, List.set_cons_succ]
    intro hK
    gi_wp2
    exact hK
  case body =>
    rintro l pre x W ⟨⟨v, hv, hrow, _⟩, hB, h7⟩ hlt
    refine zones_body F n l _ v0 v1 v2 v3 v4 v5 v6 v7 v8 v9 v10 v11 v12 v13 v14 v15 v16 v17 W0 c lv px py w W v x pre zs hreach hlt i0 hi hz0 hz1 hz2 hB h7 hv hrow ?_
    intro a W' hk2 hb2 ap hv2
    obtain ⟨v', hv2, hr2⟩ := hv2
    exact ⟨hk2.from _, ⟨hb2, fun k k1 k2 => ap k (by omega) (by omega)⟩, ⟨_, hv2, by simpa using hr2, trivial⟩, hB.trans hb2, Nat.le_trans h7 hk2.size⟩
  case done =>
    rintro D ys W hD rfl ⟨⟨v, hv, hrow, _⟩, hB, h7⟩ hK
    have hc := hv.cell
    gi_wp2
    refine ⟨by simp, .inl ⟨_, _, rfl, run_takeDeferred hK, ?_⟩⟩
    exact ⟨_, results_tmp rfl _ _ _, v, rfl, ownsRow_mono (ownsRow_putObj hrow _ hK rfl) (by omega), hB.trans (belowK_b (w := w) (Nat.le_refl _) W D _ _ (by omega) hK rfl rfl)⟩
  case stop =>
    rintro D c pre W _ _ h _
    exact h.elim
end Go.Proofs.Fi
