/-
  A range over a function, walked by hand, last part: Half.
-/
import Derived.Test.YteemgogalahhnaaFiT
namespace Go.Proofs.Fi
open Go Go.Proofs Go.RowKit Go.Shelf
set_option linter.unusedVariables false
set_option linter.unusedSimpArgs false
attribute [local go_sem] Oper.semAt_some
/-- A block of cells that nobody has frozen. -/
def Cells (W : World) (B : Nat) (t : TypeId) (cs : Array Value) : Prop := W.heap[B]? = some (.cells cs t (0, 0))
theorem Cells.lt {W : World} {B : Nat} {t : TypeId} {cs : Array Value} (h : Cells W B t cs) : B < W.heap.size := (Array.getElem?_eq_some_iff.1 h).1
theorem Cells.cell {W : World} {B : Nat} {t : TypeId} {cs : Array Value} (h : Cells W B t cs) (o : Nat) : W.cell? ⟨B, o, none⟩ = cs[o]? := cell_of h
theorem Cells.frozen {W : World} {B : Nat} {t : TypeId} {cs : Array Value} (h : Cells W B t cs) (o : Nat) (v : Value) (hv : cs[o]? = some v) : W.frozen? ⟨B, o, none⟩ = false := by
  simp [World.frozen?, show W.heap[B]? = _ from h]
theorem Cells.alloc {W : World} {B : Nat} {t : TypeId} {cs : Array Value} (h : Cells W B t cs) (o : Obj) : Cells (W.alloc o) B t cs := (alloc_old o h.lt).trans h
theorem Cells.own {β : Type} (B : Nat) (t : TypeId) (f : β → Array Value) : Own (fun s W => Cells W B t (f s)) := fun s X Y row hs hg hrow =>
  (hg.block B hs.lt (fun e => by
    obtain ⟨o, ho, hc⟩ := hrow B e.symm
    rw [show X.heap[B]? = _ from hs] at ho; cases ho; cases hc)).trans hs
theorem Cells.same {W W' : World} {B : Nat} {t : TypeId} {cs : Array Value} (h : Cells W B t cs) (e : W'.heap[B]? = W.heap[B]?) : Cells W' B t cs := e.trans h
theorem setCell_other {W : World} {b o : Nat} {v : Value} {k : Nat} (h : k ≠ b) : (W.setCell ⟨b, o, none⟩ v).heap[k]? = W.heap[k]? := by
  simp [World.setCell, Array.getElem?_modify, Ne.symm h]
theorem Cells.set {W : World} {B o : Nat} {t : TypeId} {cs : Array Value} (h : Cells W B t cs) (v : Value) : Cells (W.setCell ⟨B, o, none⟩ v) B t (cs.setIfInBounds o v) := by
  unfold Cells at h ⊢
  simp [World.setCell, Array.getElem?_modify, h]
/-- The accelerations of what has come, added up. -/
def sumH (gx gy : Int) (pre : List (Int × Zn)) : Int × Int := pre.foldl (fun s x => (wrap64 (s.1 + x.2.hx), wrap64 (s.2 + x.2.hy))) (gx, gy)
theorem sumH_snoc (gx gy : Int) (pre : List (Int × Zn)) (x : Int × Zn) : sumH gx gy (pre ++ [x]) = (wrap64 ((sumH gx gy pre).1 + x.2.hx), wrap64 ((sumH gx gy pre).2 + x.2.hy)) := by simp [sumH]
set_option maxRecDepth 100000 in
set_option maxHeartbeats 4000000 in
theorem half_assign (F : Fence) (n l : Nat) (Q : Exit → Act → World → Prop) (u0 u1 u2 u3 u4 u5 u6 u7 u8 u9 u10 u11 u12 u13 u14 u15 u16 u17 u18 u19 u21 u22 u23 u24 u25 u26 u27 u28 u29 u30 u31 u32 u33 u34 u35 : Value) (W : World) (x : Int × Zn)
    (hQ : Q .normal { tmps := #[u0, u1, u2, u3, u4, u5, u6, u7, u8, u9, u10, ptr W.heap.size, u12, u13, u14, u15, u16, u17, u18, u19, .agg x.2.cells, u21, u22, u23, u24, u25, u26, u27, u28, u29, u30, u31, u32, u33, u34, u35], defers := [] } (W.alloc (.cells x.2.cells 50))) :
    Code.wpIn (F.inRound l) (n - 1 - 1) Try.prog
      (Code.region 3
        #[{ dst := some 11, op := Op.alloc 50, type := 0, pos := "field.go:39", after := #[], guard := none },
          { dst := none, op := Op.store 50 (Operand.tmp 11) (Operand.tmp 20), type := 0, pos := "field.go:39",
            after := #[{ on := 0, ground := Ground.data }, { on := 0, ground := Ground.phase }], guard := none }]
        false) Q { tmps := #[u0, u1, u2, u3, u4, u5, u6, u7, u8, u9, u10, u11, u12, u13, u14, u15, u16, u17, u18, u19, .agg x.2.cells, u21, u22, u23, u24, u25, u26, u27, u28, u29, u30, u31, u32, u33, u34, u35], defers := [] } W := by
  obtain ⟨xi, z⟩ := x
  simp only [Zn.cells] at hQ ⊢
  gi_wp2
  exact hQ
set_option maxRecDepth 100000 in
set_option maxHeartbeats 4000000 in
theorem half_body (F : Fence) (n l : Nat) (Q : Exit → Act → World → Prop) (u0 u1 u2 u3 u4 u5 u6 u7 u8 u10 u12 u13 u14 u15 u16 u17 u18 u19 u20 u21 u22 u23 u24 u25 u26 u27 u28 u29 u30 u31 u32 u33 u34 u35 : Value) (B9 Bx : Nat) (sx sy : Int) (z : Zn) (W : World) (hx : Cells W Bx 50 z.cells) (hs : Cells W B9 23 #[vI sx, vI sy])
    (hQ : ∀ a, Q .normal a ((W.setCell ⟨B9, 0, none⟩ (vI (wrap64 (sx + z.hx)))).setCell ⟨B9, 1, none⟩ (vI (wrap64 (sy + z.hy))))) :
    Code.wpIn (F.inRound l) (n - 1 - 1) Try.prog
      (Code.block 1
        (Code.region 4
          #[{ dst := some 21, op := Op.fieldAddr 23 (Operand.tmp 9) 0, type := 0, pos := "field.go:40", after := #[],
              guard := none },
            { dst := some 22, op := Op.load 3 (Operand.tmp 21), type := 3, pos := "field.go:40",
              after := #[{ on := 0, ground := Ground.data }], guard := none },
            { dst := some 23, op := Op.fieldAddr 50 (Operand.tmp 11) 4, type := 0, pos := "field.go:40", after := #[],
              guard := none },
            { dst := some 24, op := Op.fieldAddr 23 (Operand.tmp 23) 0, type := 0, pos := "field.go:40",
              after := #[{ on := 2, ground := Ground.data }], guard := none },
            { dst := some 25, op := Op.load 3 (Operand.tmp 24), type := 3, pos := "field.go:40",
              after := #[{ on := 3, ground := Ground.data }], guard := none },
            { dst := some 26, op := Op.binOp BinOp.add 3 (Operand.tmp 22) (Operand.tmp 25) 3, type := 3,
              pos := "field.go:40", after := #[{ on := 1, ground := Ground.data }, { on := 4, ground := Ground.data }],
              guard := none },
            { dst := some 27, op := Op.fieldAddr 23 (Operand.tmp 9) 1, type := 0, pos := "field.go:40", after := #[],
              guard := none },
            { dst := some 28, op := Op.load 3 (Operand.tmp 27), type := 3, pos := "field.go:40",
              after := #[{ on := 6, ground := Ground.data }], guard := none },
            { dst := some 29, op := Op.fieldAddr 50 (Operand.tmp 11) 4, type := 0, pos := "field.go:40", after := #[],
              guard := none },
            { dst := some 30, op := Op.fieldAddr 23 (Operand.tmp 29) 1, type := 0, pos := "field.go:40",
              after := #[{ on := 8, ground := Ground.data }], guard := none },
            { dst := some 31, op := Op.load 3 (Operand.tmp 30), type := 3, pos := "field.go:40",
              after := #[{ on := 9, ground := Ground.data }], guard := none },
            { dst := some 32, op := Op.binOp BinOp.add 3 (Operand.tmp 28) (Operand.tmp 31) 3, type := 3,
              pos := "field.go:40", after := #[{ on := 7, ground := Ground.data }, { on := 10, ground := Ground.data }],
              guard := none },
            { dst := some 33, op := Op.build 23 #[(0, Operand.tmp 26), (1, Operand.tmp 32)], type := 23,
              pos := "field.go:40", after := #[{ on := 5, ground := Ground.data }, { on := 11, ground := Ground.data }],
              guard := none },
            { dst := none, op := Op.store 23 (Operand.tmp 9) (Operand.tmp 33), type := 0, pos := "field.go:40",
              after :=
                #[{ on := 12, ground := Ground.data }, { on := 0, ground := Ground.phase },
                  { on := 1, ground := Ground.phase }, { on := 2, ground := Ground.phase },
                  { on := 3, ground := Ground.phase }, { on := 4, ground := Ground.phase },
                  { on := 5, ground := Ground.phase }, { on := 6, ground := Ground.phase },
                  { on := 7, ground := Ground.phase }, { on := 8, ground := Ground.phase },
                  { on := 9, ground := Ground.phase }, { on := 10, ground := Ground.phase },
                  { on := 11, ground := Ground.phase }, { on := 12, ground := Ground.phase }],
              guard := none }]
          false)) Q { tmps := #[u0, u1, u2, u3, u4, u5, u6, u7, u8, ptr B9, u10, ptr Bx, u12, u13, u14, u15, u16, u17, u18, u19, u20, u21, u22, u23, u24, u25, u26, u27, u28, u29, u30, u31, u32, u33, u34, u35], defers := [] } W := by
  have c6 : W.cell? ⟨Bx, 6, none⟩ = some (vI z.hx) := hx.cell 6
  have c7 : W.cell? ⟨Bx, 7, none⟩ = some (vI z.hy) := hx.cell 7
  have d0 : W.cell? ⟨B9, 0, none⟩ = some (vI sx) := hs.cell 0
  have d1 : W.cell? ⟨B9, 1, none⟩ = some (vI sy) := hs.cell 1
  have f0 := hs.frozen 0 _ rfl
  have f1 := hs.frozen 1 _ rfl
  have hs2 := hs.set (o := 0) (vI (wrap64 (sx + z.hx)))
  have g1 : (W.setCell ⟨B9, 0, none⟩ (vI (wrap64 (sx + z.hx)))).cell? ⟨B9, 1, none⟩ = some (vI sy) := hs2.cell 1
  have k1 := hs2.frozen 1 _ rfl
  clear hx hs hs2
  gi_wp2
  exact hQ _
set_option maxRecDepth 100000 in
set_option maxHeartbeats 40000000 in
theorem half_in (F : Fence) (n : Nat) (h19 : F.fn 19) (h22 : F.fn 22) (h24 : F.fn 24) (h26 : F.fn 26) (h27 : F.fn 27) (hro : F.round = none) (hn : 4 ≤ n) (v0 v1 v2 v5 v6 v7 v8 v9 v10 v11 v12 v13 v14 v15 v16 v17 : Value) (gx gy : Int) (zs : List Zn) (hreach : zs.length ≤ 1000000) (c lv px py : Int) (lim : Int → Int)
    (hlim : ∀ (x y : Int) (W : World), CallsIn F (n - 1) Try.prog 22 #[.agg #[vI x, vI y], vI 1024] W fun e W' => e = .returned (.agg #[vI (lim x), vI (lim y)]) ∧ Below W.heap.size W W') (w : World) (hz : Zones w.heap.size w v12 zs) :
    CallsIn F n Try.prog 19 #[.agg #[v0, v1, v2, vI gx, vI gy, v5, v6, v7, v8, v9, v10, v11, v12, v13, v14, v15, v16, v17], .int .u32 c, vI lv, .agg #[vI px, vI py]] w fun e W' =>
      e = .returned (.agg #[vI (lim (sumH gx gy (come (act c lv px py) zs zs.length)).1), vI (lim (sumH gx gy (come (act c lv px py) zs zs.length)).2)]) ∧ Below w.heap.size w W' := by
  have h1 : 1 ≤ n := by omega
  refine callsIn_of_wp_marks Try.func19 rfl h19 ?_ hro
  simp only [Try.ntmps19, List.size_toArray, List.length_cons, List.length_nil, Nat.reduceAdd, Nat.reduceSub, Array.replicate_succ, Array.replicate_zero, List.push_toArray, List.append_toArray, List.nil_append, List.cons_append]
  gi_wp2_with (gi_at_call 24; refine (acting_in F (n - 1) h24 hro _ _ _ _ _ _).mono ?_; rintro e w' ⟨rfl, rfl⟩)
  obtain ⟨W0, hW0⟩ : ∃ W0, ((((w.alloc (Obj.cells #[v0, v1, v2, vI gx, vI gy, v5, v6, v7, v8, v9, v10, v11, v12, v13, v14, v15, v16, v17] 36)).alloc (Obj.cells #[vI px, vI py] 23)).alloc (Obj.cells #[Value.int IntKind.i64 0, Value.int IntKind.i64 0] 23)).alloc (Obj.cells #[Value.int IntKind.i64 gx, Value.int IntKind.i64 gy] 23)) = W0 := ⟨_, rfl⟩
  have s0 : W0.heap.size = w.heap.size + 4 := by rw [← hW0]; simp
  have b9 : Cells W0 (w.heap.size + 3) 23 #[vI gx, vI gy] := by
    have := World.alloc_heap_new (((w.alloc (Obj.cells #[v0, v1, v2, vI gx, vI gy, v5, v6, v7, v8, v9, v10, v11, v12, v13, v14, v15, v16, v17] 36)).alloc (Obj.cells #[vI px, vI py] 23)).alloc (Obj.cells #[Value.int IntKind.i64 0, Value.int IntKind.i64 0] 23)) (Obj.cells #[vI gx, vI gy] 23)
    rw [hW0] at this
    simp only [World.size_alloc] at this
    exact this
  have b8 : Cells W0 (w.heap.size + 2) 23 #[vI 0, vI 0] := by
    have := World.alloc_heap_new ((w.alloc (Obj.cells #[v0, v1, v2, vI gx, vI gy, v5, v6, v7, v8, v9, v10, v11, v12, v13, v14, v15, v16, v17] 36)).alloc (Obj.cells #[vI px, vI py] 23)) (Obj.cells #[vI 0, vI 0] 23)
    rw [← hW0]
    exact (alloc_old _ (by simp)).trans (by simpa using this)
  have hB0 : Below w.heap.size w W0 := by
    rw [← hW0]
    exact ((((Below.refl _ w).alloc (Nat.le_refl _) _).alloc (by simp) _).alloc (by simp; omega) _).alloc (by simp; omega) _
  rw [hW0]
  have bf := boxes_facts W0 #[v0, v1, v2, vI gx, vI gy, v5, v6, v7, v8, v9, v10, v11, v12, v13, v14, v15, v16, v17] c lv px py
  have eS : w.heap.size + 1 + 1 + 1 + 1 = W0.heap.size := by omega
  rw [eS]
  obtain ⟨W1, hW1⟩ : ∃ W1, boxes W0 #[v0, v1, v2, vI gx, vI gy, v5, v6, v7, v8, v9, v10, v11, v12, v13, v14, v15, v16, v17] c lv px py = W1 := ⟨_, rfl⟩
  rw [hW1] at bf ⊢
  obtain ⟨s1, fT, fC, fL, fP, fO, fB⟩ := bf
  have b9' : Cells W1 (w.heap.size + 3) 23 #[vI gx, vI gy] := (fO _ (by omega)).trans b9
  have b8' : Cells W1 (w.heap.size + 2) 23 #[vI 0, vI 0] := (fO _ (by omega)).trans b8
  have hB1 : Below w.heap.size w W1 := hB0.trans (fB.mono (by omega))
  clear fO fB hB0 b9 b8 hW0 hW1 eS
  refine wpIn_rangeFunc_ownH hro h1 (gf := 26) (lb := #[ptr W0.heap.size, ptr (W0.heap.size + 3), ptr (W0.heap.size + 2), ptr (W0.heap.size + 1)]) rfl h26 (enters_of Try.func26 (by kernel_rfl) rfl)
    (iter_stops F (n - 1) h26 h27 hro (by omega) W0.heap.size w.heap.size v12 zs (by omega) c lv px py W1 ⟨by omega, by omega⟩ (by rw [cell_of fT]; rfl) (by rw [cell_of fC]; rfl) (by rw [cell_of fL]; rfl) (by rw [cell_of fP]; rfl) (by rw [cell_of fP]; rfl) (hz.keep hB1)) (fun h k => h.trans k) (fun W l o o' hl ho _ _ => kpB_putObj (by omega) (by omega) l o o' hl ho) (Below.refl _ _) (fun _ => rfl)
    (fun pre W => (Cells W (w.heap.size + 3) 23 #[vI (sumH gx gy pre).1, vI (sumH gx gy pre).2] ∧ Cells W (w.heap.size + 2) 23 #[vI 0, vI 0]) ∧ (Below w.heap.size w W ∧ w.heap.size + 8 ≤ W.heap.size))
    (fun _ _ _ => False)
    (OwnFrom.and (OwnFrom.and (Own.from (Cells.own _ _ (fun pre : List (Int × Zn) => #[vI (sumH gx gy pre).1, vI (sumH gx gy pre).2])) _) (Own.from (Cells.own _ _ (fun _ => #[vI 0, vI 0])) _)) (OwnFrom.and (ownFrom_below (Nat.le_refl _) (by omega)) (fun _ _ _ _ hs hg _ => Nat.le_trans hs hg.size)))
    (fun _ _ _ _ _ hs _ _ => hs)
    ⟨⟨b9', b8'⟩, hB1, by omega⟩
    (fun x a' W => ∃ Bx, w.heap.size + 8 ≤ Bx ∧ Cells W Bx 50 x.2.cells ∧ a' = { tmps := #[.agg #[v0, v1, v2, vI gx, vI gy, v5, v6, v7, v8, v9, v10, v11, v12, v13, v14, v15, v16, v17], .int .u32 c, vI lv, .agg #[vI px, vI py], ptr w.heap.size, undef, undef, ptr (w.heap.size + 1), ptr (w.heap.size + 2), ptr (w.heap.size + 3), undef, ptr Bx, .pointer (some ⟨w.heap.size, 3, none⟩), .agg #[vI gx, vI gy], .agg #[v0, v1, v2, vI gx, vI gy, v5, v6, v7, v8, v9, v10, v11, v12, v13, v14, v15, v16, v17], .int .u32 c, vI lv, .agg #[vI px, vI py], .func (.func 26) #[] #[ptr W0.heap.size, ptr (W0.heap.size + 3), ptr (W0.heap.size + 2), ptr (W0.heap.size + 1)], vI x.1, .agg x.2.cells, undef, undef, undef, undef, undef, undef, undef, undef, undef, undef, undef, undef, undef, undef, undef], defers := [] }) ?ownx ?assign ?body ?done ?stop
  case ownx =>
    intro x a' _ W W' row hs hg hr
    obtain ⟨Bx, k1, k2, k3⟩ := hs
    exact ⟨Bx, k1, Cells.own Bx 50 (fun _ : Unit => x.2.cells) () W W' row k2 hg (fun r e => (hr r e).2), k3⟩
  case assign =>
    intro l pre x W K hi hK
    simp (config := { maxSteps := 1000000 }) only [List.zip_toArray, List.zip_cons_cons, List.zip_nil_right, List.foldl_toArray', List.foldl_toArray, List.foldl_cons, List.foldl_nil, List.setIfInBounds_toArray, List.set_cons_zero, List.set_cons_succ]
    obtain ⟨⟨i1, i2⟩, i3, i4⟩ := hi
    refine half_assign F n l _ _ _ _ _ _ _ _ _ _ _ _ _ _ _ _ _ _ _ _ _ _ _ _ _ _ _ _ _ _ _ _ _ _ _ _ W x ?_
    exact hK _ _ ((KeepsOthers.alloc _ _).from _) ((KpB.refl _ _ _).alloc (by omega) (by omega) _) ⟨⟨i1.alloc _, i2.alloc _⟩, i3.alloc (by omega) _, by simp; omega⟩ ⟨W.heap.size, i4, World.alloc_heap_new W _, rfl⟩
  case body =>
    rintro l pre x a' W hl _ ⟨⟨i1, i2⟩, i3, i4⟩ ⟨Bx, k1, k2, rfl⟩ hlt
    refine half_body F n l _ _ _ _ _ _ _ _ _ _ _ _ _ _ _ _ _ _ _ _ _ _ _ _ _ _ _ _ _ _ _ _ _ _ _ (w.heap.size + 3) Bx _ _ x.2 W k2 i1 ?_
    intro a
    have e : ∀ k, k ≠ w.heap.size + 3 → ((W.setCell ⟨w.heap.size + 3, 0, none⟩ (vI (wrap64 ((sumH gx gy pre).1 + x.2.hx)))).setCell ⟨w.heap.size + 3, 1, none⟩ (vI (wrap64 ((sumH gx gy pre).2 + x.2.hy)))).heap[k]? = W.heap[k]? := fun k hk => (setCell_other hk).trans (setCell_other hk)
    have hb : ∀ n₀, n₀ ≤ w.heap.size → Below n₀ W ((W.setCell ⟨w.heap.size + 3, 0, none⟩ (vI (wrap64 ((sumH gx gy pre).1 + x.2.hx)))).setCell ⟨w.heap.size + 3, 1, none⟩ (vI (wrap64 ((sumH gx gy pre).2 + x.2.hy)))) := fun n₀ hn => ((Below.refl n₀ W).setCell (by show n₀ ≤ w.heap.size + 3; omega) _).setCell (by show n₀ ≤ w.heap.size + 3; omega) _
    have hko : KeepsOthers W ((W.setCell ⟨w.heap.size + 3, 0, none⟩ (vI (wrap64 ((sumH gx gy pre).1 + x.2.hx)))).setCell ⟨w.heap.size + 3, 1, none⟩ (vI (wrap64 ((sumH gx gy pre).2 + x.2.hy)))) := (KeepsOthers.setCell _ _ _).trans (KeepsOthers.setCell _ _ _)
    refine ⟨hko.from _, ⟨hb _ (Nat.le_refl _), fun k q1 q2 => e k (by omega)⟩, ⟨?_, i2.same (e _ (by omega))⟩, i3.trans (hb _ (Nat.le_refl _)), Nat.le_trans i4 hko.size⟩
    rw [sumH_snoc]
    exact (i1.set (o := 0) _).set (o := 1) _
  case done =>
    rintro D ys W hD rfl ⟨⟨i1, i2⟩, i3, i4⟩ hK
    have d0 := i1.cell 0
    have d1 := i1.cell 1
    simp only [List.getElem?_toArray, List.getElem?_cons_zero, List.getElem?_cons_succ] at d0 d1
    gi_wp2_with (gi_at_call 22; refine (hlim _ _ _).mono ?_)
    rintro e w' ⟨rfl, hb⟩
    have k8 : Cells w' (w.heap.size + 2) 23 #[vI 0, vI 0] := i2.same (hb.block _ (by omega))
    have q0 : w'.cell? ⟨w.heap.size + 2, 0, none⟩ = some (vI 0) := k8.cell 0
    have q1 : w'.cell? ⟨w.heap.size + 2, 1, none⟩ = some (vI 0) := k8.cell 1
    have r0 := k8.frozen 0 _ rfl
    have r1 := k8.frozen 1 _ rfl
    have k8s : ∀ v, Cells (w'.setCell ⟨w.heap.size + 2, 0, none⟩ v) (w.heap.size + 2) 23 #[v, vI 0] := fun v => k8.set (o := 0) v
    have t1 : ∀ v, (w'.setCell ⟨w.heap.size + 2, 0, none⟩ v).cell? ⟨w.heap.size + 2, 1, none⟩ = some (vI 0) := fun v => (k8s v).cell 1
    have t2 : ∀ v, (w'.setCell ⟨w.heap.size + 2, 0, none⟩ v).frozen? ⟨w.heap.size + 2, 1, none⟩ = false := fun v => (k8s v).frozen 1 _ rfl
    have hK2 : w'.heap[D]? = some (.deferred (some [])) := (hb.block D (Array.getElem?_eq_some_iff.1 hK).1).trans hK
    clear i1 i2 d0 d1 hz fT fC fL fP b9' b8' hlim
    gi_wp2
    have hfin := (k8s (vI (lim (sumH gx gy (come (act c lv px py) zs zs.length)).1))).set (o := 1) (vI (lim (sumH gx gy (come (act c lv px py) zs zs.length)).2))
    have hko : KeepsOthers w' ((w'.setCell ⟨w.heap.size + 2, 0, none⟩ (vI (lim (sumH gx gy (come (act c lv px py) zs zs.length)).1))).setCell ⟨w.heap.size + 2, 1, none⟩ (vI (lim (sumH gx gy (come (act c lv px py) zs zs.length)).2))) := (KeepsOthers.setCell _ _ _).trans (KeepsOthers.setCell _ _ _)
    have hbw : Below w.heap.size w ((w'.setCell ⟨w.heap.size + 2, 0, none⟩ (vI (lim (sumH gx gy (come (act c lv px py) zs zs.length)).1))).setCell ⟨w.heap.size + 2, 1, none⟩ (vI (lim (sumH gx gy (come (act c lv px py) zs zs.length)).2))) :=
      ((i3.trans (hb.mono (by omega))).setCell (by show w.heap.size ≤ w.heap.size + 2; omega) _).setCell (by show w.heap.size ≤ w.heap.size + 2; omega) _
    have hK3 := hko.same D _ hK2 rfl
    refine ⟨by simp, .inl ⟨_, _, rfl, run_takeDeferred hK3, ?_⟩⟩
    have hg := grownBy_putObj' ((w'.setCell ⟨w.heap.size + 2, 0, none⟩ (vI (lim (sumH gx gy (come (act c lv px py) zs zs.length)).1))).setCell ⟨w.heap.size + 2, 1, none⟩ (vI (lim (sumH gx gy (come (act c lv px py) zs zs.length)).2))) D (.deferred none)
    have hc0 := cell_kept (hfin.cell 0) hg (fun r e => by cases e; exact ⟨_, hK3, rfl⟩)
    have hc1 := cell_kept (hfin.cell 1) hg (fun r e => by cases e; exact ⟨_, hK3, rfl⟩)
    refine ⟨.agg #[vI (lim (sumH gx gy (come (act c lv px py) zs zs.length)).1), vI (lim (sumH gx gy (come (act c lv px py) zs zs.length)).2)], ?_, rfl, hbw.trans (belowK_b (w := w) (Nat.le_refl _) _ D _ _ (by omega) hK3 rfl rfl)⟩
    rw [show w.heap.size + 1 + 1 = w.heap.size + 2 from rfl]
    generalize (((w'.setCell ⟨w.heap.size + 2, 0, none⟩ (vI (lim (sumH gx gy (come (act c lv px py) zs zs.length)).1))).setCell ⟨w.heap.size + 2, 1, none⟩ (vI (lim (sumH gx gy (come (act c lv px py) zs zs.length)).2))).putObj D (.deferred none)) = Wf at hc0 hc1 ⊢
    simp [results, Try.f19, go_sem, hc0, hc1]
  case stop =>
    rintro D c pre W _ _ h _
    exact h.elim
end Go.Proofs.Fi
