import Derived.Test.YtjmjndfdociiiaaDoH
namespace Go.Proofs.Do
set_option linter.unusedVariables false
set_option linter.unusedSimpArgs false
open Go Go.Sx Go.Proofs
set_option maxRecDepth 100000
structure Dot where
  x : Int
  y : Int
  level : Int
deriving DecidableEq
def codDot : Cod Dot where
  n := 3
  enc a := [.int .i64 a.x, .int .i64 a.y, .int .i64 a.level]
  dec := fun | [x0, x1, x2] => oB (rI .i64 x0) fun a0 => oB (rI .i64 x1) fun a1 => oB (rI .i64 x2) fun a2 => some ⟨a0, a1, a2⟩ | _ => none
  dft := ⟨0, 0, 0⟩
  good _ := True
  fine _ := trivial
  ok l a h _ := by
    split at h
    case h_2 => cases h
    obtain ⟨a0, h0, h⟩ := oB_ok h
    obtain ⟨a1, h1, h⟩ := oB_ok h
    obtain ⟨a2, h2, h⟩ := oB_ok h
    cases h
    exact ⟨rI_leZ h0, rI_leZ h1, rI_leZ h2, trivial⟩
  self _ := rfl
  len _ := rfl
  mrg c x y a b h k := by
    split at h
    case h_2 => cases h
    split at k
    case h_2 => cases k
    obtain ⟨a0, h0, h⟩ := oB_ok h
    obtain ⟨b0, k0, k⟩ := oB_ok k
    obtain ⟨a1, h1, h⟩ := oB_ok h
    obtain ⟨b1, k1, k⟩ := oB_ok k
    obtain ⟨a2, h2, h⟩ := oB_ok h
    obtain ⟨b2, k2, k⟩ := oB_ok k
    cases h; cases k
    simp only [mergeL, rI_mrg h0 k0, rI_mrg h1 k1, rI_mrg h2 k2, oB_some]
    cases c <;> rfl
@[simp] theorem codDot_n : codDot.n = 3 := rfl
@[simp] theorem codDot_dft : codDot.dft = ⟨0, 0, 0⟩ := rfl
@[simp] theorem codDot_enc (a : Dot) : codDot.enc a = [.int .i64 a.x, .int .i64 a.y, .int .i64 a.level] := rfl
@[simp] theorem codDot_push {l : List Dot} {v0 : Int} {v1 : Int} {v2 : Int} : rowL codDot (l.length + 1) (fun j => mergeL (decide (j < l.length)) [.int .i64 (l.getD j ⟨0, 0, 0⟩).x, .int .i64 (l.getD j ⟨0, 0, 0⟩).y, .int .i64 (l.getD j ⟨0, 0, 0⟩).level] [.int .i64 v0, .int .i64 v1, .int .i64 v2]) = l ++ [⟨v0, v1, v2⟩] := rowL_push (C := codDot) rfl
theorem codDot_set {n i : Nat} {l : List Dot} {v0 : Int} {v1 : Int} {v2 : Int} (hn : n = l.length) : rowL codDot n (fun j => mergeL (decide (j = i)) [.int .i64 v0, .int .i64 v1, .int .i64 v2] [.int .i64 (l.getD j ⟨0, 0, 0⟩).x, .int .i64 (l.getD j ⟨0, 0, 0⟩).y, .int .i64 (l.getD j ⟨0, 0, 0⟩).level]) = l.set i ⟨v0, v1, v2⟩ := rowL_set (C := codDot) hn rfl
@[simp] theorem codDot_self {l : List Dot} : rowL codDot l.length (fun j => [.int .i64 (l.getD j ⟨0, 0, 0⟩).x, .int .i64 (l.getD j ⟨0, 0, 0⟩).y, .int .i64 (l.getD j ⟨0, 0, 0⟩).level]) = l := rowL_enc (C := codDot) rfl
theorem codDot_z : ∀ l a, codDot.dec l = some a → codDot.good l → leZ0L l (codDot.enc a) := by
  intro l a h _
  simp only [codDot] at h ⊢
  split at h
  case h_2 => cases h
  obtain ⟨a0, h0, h⟩ := oB_ok h
  obtain ⟨a1, h1, h⟩ := oB_ok h
  obtain ⟨a2, h2, h⟩ := oB_ok h
  cases h
  exact ⟨rI_leZ0 h0, rI_leZ0 h1, rI_leZ0 h2, trivial⟩
@[simp] theorem codDot_const {n : Nat} {v0 : Int} {v1 : Int} {v2 : Int} : rowL codDot n (fun _ => [.int .i64 v0, .int .i64 v1, .int .i64 v2]) = List.replicate n ⟨v0, v1, v2⟩ := rowL_const (C := codDot) rfl
theorem codDot_sub {n o : Nat} {l : List Dot} (hn : o + n ≤ l.length) : rowL codDot n (fun i => [.int .i64 (l.getD (o + i) ⟨0, 0, 0⟩).x, .int .i64 (l.getD (o + i) ⟨0, 0, 0⟩).y, .int .i64 (l.getD (o + i) ⟨0, 0, 0⟩).level]) = (l.drop o).take n := rowL_sub (C := codDot) hn
theorem codDot_take {n : Nat} {l : List Dot} (hn : n ≤ l.length) : rowL codDot n (fun j => [.int .i64 (l.getD j ⟨0, 0, 0⟩).x, .int .i64 (l.getD j ⟨0, 0, 0⟩).y, .int .i64 (l.getD j ⟨0, 0, 0⟩).level]) = l.take n := rowL_take (C := codDot) hn
structure Mix where
  kind : Int
  step : Int
  n : Int
deriving DecidableEq
def codMix : Cod Mix where
  n := 3
  enc a := [.int .i64 a.kind, .int .i64 a.step, .int .i64 a.n]
  dec := fun | [x0, x1, x2] => oB (rI .i64 x0) fun a0 => oB (rI .i64 x1) fun a1 => oB (rI .i64 x2) fun a2 => some ⟨a0, a1, a2⟩ | _ => none
  dft := ⟨0, 0, 0⟩
  good _ := True
  fine _ := trivial
  ok l a h _ := by
    split at h
    case h_2 => cases h
    obtain ⟨a0, h0, h⟩ := oB_ok h
    obtain ⟨a1, h1, h⟩ := oB_ok h
    obtain ⟨a2, h2, h⟩ := oB_ok h
    cases h
    exact ⟨rI_leZ h0, rI_leZ h1, rI_leZ h2, trivial⟩
  self _ := rfl
  len _ := rfl
  mrg c x y a b h k := by
    split at h
    case h_2 => cases h
    split at k
    case h_2 => cases k
    obtain ⟨a0, h0, h⟩ := oB_ok h
    obtain ⟨b0, k0, k⟩ := oB_ok k
    obtain ⟨a1, h1, h⟩ := oB_ok h
    obtain ⟨b1, k1, k⟩ := oB_ok k
    obtain ⟨a2, h2, h⟩ := oB_ok h
    obtain ⟨b2, k2, k⟩ := oB_ok k
    cases h; cases k
    simp only [mergeL, rI_mrg h0 k0, rI_mrg h1 k1, rI_mrg h2 k2, oB_some]
    cases c <;> rfl
@[simp] theorem codMix_n : codMix.n = 3 := rfl
@[simp] theorem codMix_dft : codMix.dft = ⟨0, 0, 0⟩ := rfl
@[simp] theorem codMix_enc (a : Mix) : codMix.enc a = [.int .i64 a.kind, .int .i64 a.step, .int .i64 a.n] := rfl
@[simp] theorem codMix_push {l : List Mix} {v0 : Int} {v1 : Int} {v2 : Int} : rowL codMix (l.length + 1) (fun j => mergeL (decide (j < l.length)) [.int .i64 (l.getD j ⟨0, 0, 0⟩).kind, .int .i64 (l.getD j ⟨0, 0, 0⟩).step, .int .i64 (l.getD j ⟨0, 0, 0⟩).n] [.int .i64 v0, .int .i64 v1, .int .i64 v2]) = l ++ [⟨v0, v1, v2⟩] := rowL_push (C := codMix) rfl
theorem codMix_set {n i : Nat} {l : List Mix} {v0 : Int} {v1 : Int} {v2 : Int} (hn : n = l.length) : rowL codMix n (fun j => mergeL (decide (j = i)) [.int .i64 v0, .int .i64 v1, .int .i64 v2] [.int .i64 (l.getD j ⟨0, 0, 0⟩).kind, .int .i64 (l.getD j ⟨0, 0, 0⟩).step, .int .i64 (l.getD j ⟨0, 0, 0⟩).n]) = l.set i ⟨v0, v1, v2⟩ := rowL_set (C := codMix) hn rfl
@[simp] theorem codMix_self {l : List Mix} : rowL codMix l.length (fun j => [.int .i64 (l.getD j ⟨0, 0, 0⟩).kind, .int .i64 (l.getD j ⟨0, 0, 0⟩).step, .int .i64 (l.getD j ⟨0, 0, 0⟩).n]) = l := rowL_enc (C := codMix) rfl
theorem codMix_z : ∀ l a, codMix.dec l = some a → codMix.good l → leZ0L l (codMix.enc a) := by
  intro l a h _
  simp only [codMix] at h ⊢
  split at h
  case h_2 => cases h
  obtain ⟨a0, h0, h⟩ := oB_ok h
  obtain ⟨a1, h1, h⟩ := oB_ok h
  obtain ⟨a2, h2, h⟩ := oB_ok h
  cases h
  exact ⟨rI_leZ0 h0, rI_leZ0 h1, rI_leZ0 h2, trivial⟩
@[simp] theorem codMix_const {n : Nat} {v0 : Int} {v1 : Int} {v2 : Int} : rowL codMix n (fun _ => [.int .i64 v0, .int .i64 v1, .int .i64 v2]) = List.replicate n ⟨v0, v1, v2⟩ := rowL_const (C := codMix) rfl
theorem codMix_sub {n o : Nat} {l : List Mix} (hn : o + n ≤ l.length) : rowL codMix n (fun i => [.int .i64 (l.getD (o + i) ⟨0, 0, 0⟩).kind, .int .i64 (l.getD (o + i) ⟨0, 0, 0⟩).step, .int .i64 (l.getD (o + i) ⟨0, 0, 0⟩).n]) = (l.drop o).take n := rowL_sub (C := codMix) hn
theorem codMix_take {n : Nat} {l : List Mix} (hn : n ≤ l.length) : rowL codMix n (fun j => [.int .i64 (l.getD j ⟨0, 0, 0⟩).kind, .int .i64 (l.getD j ⟨0, 0, 0⟩).step, .int .i64 (l.getD j ⟨0, 0, 0⟩).n]) = l.take n := rowL_take (C := codMix) hn
def codDotW (a : Dot) : Prop := (Lit.int .i64 a.x).wf = true ∧ (Lit.int .i64 a.y).wf = true ∧ (Lit.int .i64 a.level).wf = true
theorem codDot_acc : codDot.Acc [.int .i64, .int .i64, .int .i64] codDotW := by
  intro svs h
  simp only [HasKL, HasK] at h
  obtain ⟨x0, r0, rfl, ⟨a0, rfl, h0⟩, x1, r1, rfl, ⟨a1, rfl, h1⟩, x2, r2, rfl, ⟨a2, rfl, h2⟩, rfl⟩ := h
  exact ⟨⟨a0, a1, a2⟩, rfl, trivial, h0, h1, h2⟩
def codMixW (a : Mix) : Prop := (Lit.int .i64 a.kind).wf = true ∧ (Lit.int .i64 a.step).wf = true ∧ (Lit.int .i64 a.n).wf = true
theorem codMix_acc : codMix.Acc [.int .i64, .int .i64, .int .i64] codMixW := by
  intro svs h
  simp only [HasKL, HasK] at h
  obtain ⟨x0, r0, rfl, ⟨a0, rfl, h0⟩, x1, r1, rfl, ⟨a1, rfl, h1⟩, x2, r2, rfl, ⟨a2, rfl, h2⟩, rfl⟩ := h
  exact ⟨⟨a0, a1, a2⟩, rfl, trivial, h0, h1, h2⟩
theorem ints_open {ik : IntKind} : ∀ {n : Nat} {svs : List SV}, HasKL (List.replicate n (.int ik)) svs → ∃ ct : List Int, ct.length = n ∧ svs = ct.map (.int ik) ∧ ∀ x ∈ ct, (Lit.int ik x).wf = true
  | 0, svs, h => by simp only [List.replicate, HasKL] at h; exact ⟨[], rfl, h, by simp⟩
  | n + 1, svs, h => by
    simp only [List.replicate_succ, HasKL, HasK] at h
    obtain ⟨x, r, rfl, ⟨a, rfl, ha⟩, h⟩ := h
    obtain ⟨ct, h1, rfl, h3⟩ := ints_open h
    exact ⟨a :: ct, by simp [h1], rfl, by simpa using ⟨ha, h3⟩⟩
theorem le1_two {ik : IntKind} (a b : List Int) : le1 (.agg (((a ++ b).map (.int ik)).map .s)) (.agg [.a a.length 1 fun j => [.int ik (a.getD j 0)], .a b.length 1 fun j => [.int ik (b.getD j 0)]]) := by
  refine le1_segs ?_ fun k sv hk => ?_
  · rw [segsSize_map_s]; simp [segsSize, Seg.size]
  · rw [flat_map_s]
    have hlt := flat_lt hk
    simp only [segsSize, Seg.size, Nat.mul_one, Nat.add_zero] at hlt
    by_cases h : k < a.length
    · rw [flat_al (by omega)] at hk
      simp only [Nat.div_one, Nat.mod_one, List.getElem?_cons_zero, Option.some.injEq] at hk
      subst hk
      rw [List.getElem?_map, List.getElem?_append_left h]
      simp [List.getD_eq_getElem?_getD, h]
    · rw [flat_ag (by omega), flat_al (by omega)] at hk
      simp only [Nat.div_one, Nat.mod_one, Nat.mul_one, List.getElem?_cons_zero, Option.some.injEq] at hk
      subst hk
      rw [List.getElem?_map, List.getElem?_append_right (by omega)]
      simp [List.getD_eq_getElem?_getD, show k - a.length < b.length by omega]
theorem u64_facts {n : Int} (h : (Lit.int .u64 n).wf = true) : isU n := by
  simp [Lit.wf, IntKind.min, IntKind.max, IntKind.signed, IntKind.bits] at h
  exact ⟨h.1, by omega⟩
theorem u8_facts {n : Int} (h : (Lit.int .u8 n).wf = true) : 0 ≤ n ∧ n < 256 := by
  simp [Lit.wf, IntKind.min, IntKind.max, IntKind.signed, IntKind.bits] at h
  exact ⟨h.1, by omega⟩
theorem i64_facts {n : Int} (h : (Lit.int .i64 n).wf = true) : -9223372036854775808 ≤ n ∧ n < 9223372036854775808 := by
  simp [Lit.wf, IntKind.min, IntKind.max, IntKind.signed, IntKind.bits] at h
  exact ⟨h.1, by omega⟩
theorem open_F {P : Program} {t : TypeId} {ts : List TypeId} {xs : List SV} (h : HasArgs P (t :: ts) xs) (hs : shapeOf P 9 t = some (List.replicate 32 (.int .u64))) (ha : isAggT P t = some true) : ∃ d x r, xs = x :: r ∧ le1 x (encF d) ∧ okF d ∧ HasArgs P ts r := by
  obtain ⟨svs, r, h1, h2, h3⟩ := h.one hs ha
  obtain ⟨ct, k1, rfl, k3⟩ := ints_open h1
  have e : ct = ct.take 16 ++ ct.drop 16 := (List.take_append_drop 16 ct).symm
  have m1 : (ct.take 16).length = 16 := by simp [k1]
  have m2 : (ct.drop 16).length = 16 := by simp [k1]
  have q : ∀ l : List Int, l.length = 16 → (∀ x ∈ l, x ∈ ct) → ∀ y, y < 16 → isU (l.getD y 0) := fun l hl hm y hy => by
    refine u64_facts (k3 _ (hm _ ?_))
    simp [List.getD_eq_getElem?_getD, show y < l.length by omega]
  refine ⟨⟨ct.take 16, ct.drop 16⟩, _, r, h2, ?_, ?_, h3⟩
  · have := le1_two (ik := .u64) (ct.take 16) (ct.drop 16)
    rw [m1, m2, ← e] at this
    exact this
  · unfold okF
    exact ⟨m1, m2, q _ m1 fun x hx => List.mem_of_mem_take hx, q _ m2 fun x hx => List.mem_of_mem_drop hx⟩
theorem law_tt {P : Program} {f : FuncId} {args : Array Value} {W : World} {Q : RO → World → Prop} (h : Calls P f args W fun e W' => ∃ v R', e = .returned v ∧ Rel R' Own.empty (.bool true) v ∧ Q R' W') :
    Calls P f args W fun e W' => ∃ v R', e = .returned v ∧ Rel R' Own.empty .tt v ∧ Q R' W' :=
  Calls.mono h fun e W' ⟨v, R', h1, h2, h3⟩ => ⟨v, R', h1, by rw [inv_bool h2]; exact .tt _, h3⟩
/-! Frames as the laws see them. -/
def eqFr (f g : Fr) : Bool := eqSegs [.a 16 1 fun j => [.int .u64 (f.low.getD j 0)], .a 16 1 fun j => [.int .u64 (f.high.getD j 0)]] [.a 16 1 fun j => [.int .u64 (g.low.getD j 0)], .a 16 1 fun j => [.int .u64 (g.high.getD j 0)]]
theorem eqF_def (f g : Fr) : eqSegs [.a 16 1 fun j => [.int .u64 (f.low.getD j 0)], .a 16 1 fun j => [.int .u64 (f.high.getD j 0)]] [.a 16 1 fun j => [.int .u64 (g.low.getD j 0)], .a 16 1 fun j => [.int .u64 (g.high.getD j 0)]] = eqFr f g := rfl
theorem eqFr_iff {f g : Fr} (hf : okF f) (hg : okF g) : eqFr f g = true ↔ f = g := by
  obtain ⟨a1, a2⟩ := okF_len hf
  obtain ⟨b1, b2⟩ := okF_len hg
  have e : eqFr f g = (((List.range 16).all fun i => decide (f.low.getD i 0 = g.low.getD i 0)) && ((List.range 16).all fun i => decide (f.high.getD i 0 = g.high.getD i 0))) := by
    simp only [eqFr, eqSegs, eqCells, eqCell, Bool.and_true]; rfl
  rw [e]
  simp only [Bool.and_eq_true, List.all_eq_true, List.mem_range, decide_eq_true_eq]
  refine ⟨fun h => ?_, fun h => by subst h; exact ⟨fun _ _ => rfl, fun _ _ => rfl⟩⟩
  cases f; cases g
  simp only [Fr.mk.injEq]
  exact ⟨list_ext16 a1 b1 h.1, list_ext16 a2 b2 h.2⟩
theorem eqFr_self (f : Fr) : eqFr f f = true := by simp [eqFr, eqSegs, eqCells, eqCell]
attribute [irreducible] eqFr
theorem fr_eta (f : Fr) : (⟨f.low, f.high⟩ : Fr) = f := rfl
theorem zero_mk : (⟨z16, z16⟩ : Fr) = zeroF := rfl
theorem rrF {f : Fr} (h : okF f) : (⟨rr f.low, rr f.high⟩ : Fr) = f := by
  obtain ⟨a1, a2⟩ := okF_len h
  rw [rr_eq a1, rr_eq a2]
theorem ok_over (a b : Fr) : okF (overS a b) := by simp only [overS]; exact mkL_ok _
theorem ok_shift (a : Fr) (x y : Int) : okF (shiftS a x y) := by simp only [shiftS]; exact mkL_ok _
theorem ok_fill (n : Int) : okF (fillS n) := by simp only [fillS]; exact mkL_ok _
theorem ok_inv (a : Fr) : okF (invS a) := by simp only [invS]; exact mkL_ok _
theorem ok_text {a : Fr} (h : okF a) (x y : Int) (s : List UInt8) (n : Int) : okF (textS a x y s n) := by
  simp only [textS]; split
  · exact h
  · exact mkL_ok _
theorem ok_bld (k : Int) (a b : Fr) (s n : Int) : okF (bldS k a b s n) := by
  simp only [bldS]; split
  · exact mkL_ok _
  · exact zeroF_ok
section
variable {y x : Nat} (hy : y < 16) (hx : x < 64)
include hy hx
theorem lv_over (a b : Fr) : lv (overS a b) y x = if 0 < lv b y x then lv b y x else lv a y x := by
  have e : overL a b y x = if 0 < lv b y x then lv b y x else lv a y x := by simp only [overL]
  have : overS a b = mkL (overL a b) := by simp only [overS]
  rw [this, lv_mkL hy hx (over_lev a b y x), e]
theorem lv_shift (a : Fr) (dx dy : Int) : lv (shiftS a dx dy) y x = getS a ((x : Int) - dx) ((y : Int) - dy) := by
  have e : shiftL a dx dy y x = getS a ((x : Int) - dx) ((y : Int) - dy) := by simp only [shiftL]
  have : shiftS a dx dy = mkL (shiftL a dx dy) := by simp only [shiftS]
  rw [this, lv_mkL hy hx (shift_lev a dx dy y x), e]
theorem lv_fill (n : Int) : lv (fillS n) y x = lvS n := by
  have e : fillL n y x = lvS n := by simp only [fillL]
  have : fillS n = mkL (fillL n) := by simp only [fillS]
  rw [this, lv_mkL hy hx (fill_lev n y x), e]
theorem lv_inv (a : Fr) : lv (invS a) y x = 3 - lv a y x := by
  have e : invL a y x = 3 - lv a y x := by simp only [invL]
  have : invS a = mkL (invL a) := by simp only [invS]
  have b := lv_bd a y x
  rw [this, lv_mkL hy hx (by rw [e]; omega), e]
theorem lv_set (a : Fr) (u v n : Int) : lv (setS a u v n) y x = if (x : Int) = u ∧ (y : Int) = v then lvS n else lv a y x := by
  simp only [setS]
  by_cases h : isD u v = true
  · rw [if_pos h]
    obtain ⟨u0, u1, v0, v1⟩ := isD_iff.1 h
    have e := setL_at (f := a) (x := u.toNat) (y := v.toNat) (n := n) (b := y) (a := x)
    have b := lv_bd a y x
    have b2 := lvS_cases n
    rw [lv_mkL hy hx (by rw [e]; split <;> omega), e]
    by_cases c : x = u.toNat ∧ y = v.toNat
    · rw [if_pos c, if_pos (by omega)]
    · rw [if_neg c, if_neg (by omega)]
  · rw [if_neg h, if_neg fun c => h (isD_iff.2 (by omega))]
end
theorem getS_nat {f : Fr} {y x : Nat} (hy : y < 16) (hx : x < 64) : getS f x y = lv f y x := by
  rw [getS_in (by omega) (by omega) (by omega) (by omega)]; rfl
theorem getS_out {f : Fr} {x y : Int} (h : ¬ (0 ≤ x ∧ x < 64 ∧ 0 ≤ y ∧ y < 16)) : getS f x y = 0 := by
  have : isD x y = false := Bool.eq_false_iff.2 fun c => h (isD_iff.1 c)
  simp only [getS, this]; rfl
abbrev encD (d : Dot) : SV := argSV true (codDot.enc d)
abbrev encM (d : Mix) : SV := argSV true (codMix.enc d)
theorem lv_if (n : Int) : (if 0 < if n < 3 then n else 3 then if n < 3 then n else 3 else 0) = lvS n := by
  simp only [lvS]
  by_cases h : n < 3
  · rw [if_pos h]; split <;> omega
  · rw [if_neg h]; split <;> omega
theorem mod_w (n : Int) {k : Int} (h : 0 < k) (h2 : k ≤ 1000) : 0 ≤ W ((IntKind.u64.wrap n).tmod k) ∧ W ((IntKind.u64.wrap n).tmod k) < k := by
  have u := wrap_isU n
  have e := Int.tmod_eq_emod_of_nonneg (b := k) u.1
  have b0 := Int.emod_nonneg (IntKind.u64.wrap n) (show k ≠ 0 by omega)
  have b1 := Int.emod_lt_of_pos (IntKind.u64.wrap n) h
  rw [e, W_id (by omega) (by omega)]
  exact ⟨b0, b1⟩
theorem row_step {b : Int} (b0 : 0 ≤ b) (b2 : b < 16) : (0 ≤ W (b + 1) ∧ W (b + 1) ≤ 16) ∧ max (16 - W (b + 1)) 0 < 16 - b := by rw [W_id (by omega) (by omega)]; omega
theorem col_step {b : Int} (b0 : 0 ≤ b) (b2 : b < 64) : (0 ≤ W (b + 1) ∧ W (b + 1) ≤ 64) ∧ max (64 - W (b + 1)) 0 < 64 - b := by rw [W_id (by omega) (by omega)]; omega
theorem getS_setS {f : Fr} {x y n a b : Int} (a0 : 0 ≤ a) (a1 : a < 64) (b0 : 0 ≤ b) (b1 : b < 16) : getS (setS f x y n) a b = if a = x ∧ b = y then lvS n else getS f a b := by
  rw [getS_in a0 a1 b0 b1, getS_in a0 a1 b0 b1, lv_set (by omega) (by omega), Int.toNat_of_nonneg a0, Int.toNat_of_nonneg b0]
theorem rows_len (f : Fr) : (rowsS f).length = 16 := by simp [rowsS]
theorem cR_def (f : Fr) (k : Int) (y x : Nat) : cR f k y x = cN (fun j => decide (lv f y j = k)) x := by simp only [cR]
theorem cA_congr {f g : Fr} {k m : Int} : ∀ {n : Nat}, (∀ y, y < n → cR f k y 64 = cR g m y 64) → cA f k n = cA g m n
  | 0, _ => by simp only [cA]
  | n + 1, h => by rw [cA_next, cA_next, cA_congr fun y hy => h y (by omega), h n (by omega)]
theorem cR_sum (f : Fr) (y : Nat) : ∀ x : Nat, cR f 0 y x + cR f 1 y x + cR f 2 y x + cR f 3 y x = x
  | 0 => by simp only [cR_zero]; rfl
  | x + 1 => by
    have := cR_sum f y x
    have b := lv_bd f y x
    rw [cR_next, cR_next, cR_next, cR_next]
    rcases (show lv f y x = 0 ∨ lv f y x = 1 ∨ lv f y x = 2 ∨ lv f y x = 3 by omega) with e | e | e | e <;> rw [e] <;> simp <;> omega
theorem cA_sum (f : Fr) : ∀ y : Nat, cA f 0 y + cA f 1 y + cA f 2 y + cA f 3 y = 64 * y
  | 0 => by simp only [cA]; rfl
  | y + 1 => by
    have := cA_sum f y
    have := cR_sum f y 64
    rw [cA_next, cA_next, cA_next, cA_next]; omega
theorem cnt_at (f : Fr) : (cntS f).getD 0 0 = cA f 0 16 ∧ (cntS f).getD 1 0 = cA f 1 16 ∧ (cntS f).getD 2 0 = cA f 2 16 ∧ (cntS f).getD 3 0 = cA f 3 16 := by
  simp only [cntS]; exact ⟨rfl, rfl, rfl, rfl⟩
theorem tmod_bd (n : Int) {k : Int} (h : 0 < k) : -k < n.tmod k ∧ n.tmod k < k := by
  have := Int.lt_tmod_of_pos n h
  have := Int.tmod_lt_of_pos n h
  omega
theorem eqC_self (l : List Int) : eqSegs [Seg.a 4 1 fun j => [SV.int IntKind.i64 (l.getD j 0)]] [Seg.a 4 1 fun j => [SV.int IntKind.i64 (l.getD j 0)]] = true := by
  simp [eqSegs, eqCells, eqCell]
end Go.Proofs.Do
