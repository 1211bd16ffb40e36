/-
  A law's arguments, opened by type; her statement from her walk's condition.
-/
import Derived.Test.YteemgogalahhnaaEngX
namespace Go.Sx
set_option linter.unusedVariables false
set_option linter.unusedSimpArgs false
open Go Go.RowKit

theorem HasArgs.one {P : Program} {t : TypeId} {ts : List TypeId} {xs : List SV} {ks : List CS} {agg : Bool} (h : HasArgs P (t :: ts) xs) (hs : shapeOf P 9 t = some ks) (ha : isAggT P t = some agg) : ∃ svs r, HasKL ks svs ∧ xs = argSV agg svs :: r ∧ HasArgs P ts r := by
  obtain ⟨ks', agg', svs, r, h1, h2, h3, h4, h5⟩ := h
  rw [hs] at h1; rw [ha] at h2
  cases h1; cases h2
  exact ⟨svs, r, h3, h4, h5⟩
/-- All cells of these kinds are values of the type. -/
def Cod.Acc {α : Type} (C : Cod α) (ks : List CS) (wf : α → Prop) : Prop := ∀ svs, HasKL ks svs → ∃ a, C.dec svs = some a ∧ C.good svs ∧ wf a
theorem codI_acc {ik : IntKind} : (codI ik).Acc [.int ik] fun n => (Lit.int ik n).wf = true := by
  intro svs h
  simp only [HasKL, HasK] at h
  obtain ⟨x, r, rfl, ⟨n, rfl, hn⟩, rfl⟩ := h
  exact ⟨n, rI_self ik n, trivial, hn⟩
theorem codB_acc : codB.Acc [.bool] fun _ => True := by
  intro svs h
  simp only [HasKL, HasK] at h
  obtain ⟨x, r, rfl, ⟨n, rfl⟩, rfl⟩ := h
  exact ⟨n, rfl, trivial, trivial⟩
theorem codS_acc : codS.Acc [.str] fun s => s.length ≤ maxLen := by
  intro svs h
  simp only [HasKL, HasK] at h
  obtain ⟨x, r, rfl, ⟨n, rfl, hn⟩, rfl⟩ := h
  exact ⟨n, rfl, trivial, hn⟩
/-- What is related to the one is related to the other. -/
def le1 (x y : SV) : Prop := ∀ ro v, Rel ro Own.empty x v → Rel ro Own.empty y v
def le1L : List SV → List SV → Prop
  | [], [] => True
  | x :: r, y :: r' => le1 x y ∧ le1L r r'
  | _, _ => False
theorem le1_of {x y : SV} (h : leB nokp nonl x y) : le1 x y := fun _ _ hr => leB_rel (Kp.none _ _) h hr
theorem le1_refl (x : SV) : le1 x x := fun _ _ h => h
theorem le1L_relL {ro : RO} : ∀ {xs ys : List SV} {vs : List Value}, le1L xs ys → RelL ro Own.empty xs vs → RelL ro Own.empty ys vs
  | [], [], [], _, _ => trivial
  | x :: xs, y :: ys, v :: vs, h, hr => ⟨h.1 _ _ hr.1, le1L_relL h.2 hr.2⟩
  | [], _ :: _, _, h, _ => h.elim
  | _ :: _, [], _, h, _ => h.elim
/-- Cells in other segments. -/
theorem le1_segs {l l' : List Seg} (hs : segsSize l' = segsSize l) (h : ∀ k sv, flat l' k = some sv → flat l k = some sv) : le1 (.agg l) (.agg l') := by
  intro ro v hr
  obtain ⟨cs, rfl, hc, hh⟩ := inv_agg hr
  exact .agg _ _ _ (by rw [hc, hs]) fun k sv hk => hh k sv (h k sv hk)
section
variable {P : Program} {t : TypeId} {ts : List TypeId} {xs : List SV} {α : Type} {C : Cod α} {ks : List CS} {wf : α → Prop}
theorem open_struct (h : HasArgs P (t :: ts) xs) (hs : shapeOf P 9 t = some ks) (ha : isAggT P t = some true) (hC : C.Acc ks wf) : ∃ a x r, xs = x :: r ∧ le1 x ((argA C).enc a) ∧ wf a ∧ HasArgs P ts r := by
  obtain ⟨svs, r, h1, h2, h3⟩ := h.one hs ha
  obtain ⟨a, h4, h5, h6⟩ := hC svs h1
  exact ⟨a, _, r, h2, le1_of (leZL_leSegs (C.ok _ _ h4 h5)), h6, h3⟩
theorem open_scalar {x0 : CS} (h : HasArgs P (t :: ts) xs) (hs : shapeOf P 9 t = some [x0]) (ha : isAggT P t = some false) : ∃ x r, xs = x :: r ∧ HasK x0 x ∧ HasArgs P ts r := by
  obtain ⟨svs, r, h1, h2, h3⟩ := h.one hs ha
  simp only [HasKL] at h1
  obtain ⟨x, q, rfl, hx, rfl⟩ := h1
  exact ⟨x, r, h2, hx, h3⟩
theorem open_int {ik : IntKind} (h : HasArgs P (t :: ts) xs) (hs : shapeOf P 9 t = some [.int ik]) (ha : isAggT P t = some false) : ∃ n r, xs = .int ik n :: r ∧ (Lit.int ik n).wf = true ∧ HasArgs P ts r := by
  obtain ⟨x, r, h1, h2, h3⟩ := open_scalar h hs ha
  simp only [HasK] at h2
  obtain ⟨n, rfl, hn⟩ := h2
  exact ⟨n, r, h1, hn, h3⟩
theorem open_bool (h : HasArgs P (t :: ts) xs) (hs : shapeOf P 9 t = some [.bool]) (ha : isAggT P t = some false) : ∃ n r, xs = .bool n :: r ∧ HasArgs P ts r := by
  obtain ⟨x, r, h1, h2, h3⟩ := open_scalar h hs ha
  simp only [HasK] at h2
  obtain ⟨n, rfl⟩ := h2
  exact ⟨n, r, h1, h3⟩
theorem open_str (h : HasArgs P (t :: ts) xs) (hs : shapeOf P 9 t = some [.str]) (ha : isAggT P t = some false) : ∃ n r, xs = .str n :: r ∧ n.length ≤ maxLen ∧ HasArgs P ts r := by
  obtain ⟨x, r, h1, h2, h3⟩ := open_scalar h hs ha
  simp only [HasK] at h2
  obtain ⟨n, rfl, hn⟩ := h2
  exact ⟨n, r, h1, hn, h3⟩
theorem HasK_row {x : SV} (h : HasK (.sl ks) x) (hC : C.Acc ks wf) (hn : Nat.beq ks.length C.n = true) : ∃ n f, x = .ros ks.length n f ∧ rowP C n f ∧ leB nokp nonl x (encR C (rowL C n f)) ∧ n ≤ maxLen ∧ ∀ a ∈ rowL C n f, wf a := by
  simp only [HasK] at h
  obtain ⟨n, f, rfl, hm, hf⟩ := h
  have hp : rowP C n f := fun i hi => by
    obtain ⟨a, ha, hg, _⟩ := hC _ (hf i hi)
    exact ⟨by rw [ha]; rfl, hg⟩
  have hd : (argR C).dec (.ros ks.length n f) = some (rowP C n f, rowL C n f) := by
    simp only [argR, hn]
  refine ⟨n, f, rfl, hp, (argR C).ok _ _ _ hd hp, hm, fun a ha => ?_⟩
  simp only [rowL, List.mem_map, List.mem_range] at ha
  obtain ⟨i, hi, rfl⟩ := ha
  obtain ⟨b, hb, _, hw⟩ := hC _ (hf i hi)
  rw [hb]; exact hw
theorem open_row (h : HasArgs P (t :: ts) xs) (hs : shapeOf P 9 t = some [.sl ks]) (ha : isAggT P t = some false) (hC : C.Acc ks wf) (hn : Nat.beq ks.length C.n = true) : ∃ l x r, xs = x :: r ∧ le1 x (encR C l) ∧ l.length ≤ maxLen ∧ (∀ a ∈ l, wf a) ∧ HasArgs P ts r := by
  obtain ⟨x, r, h1, h2, h3⟩ := open_scalar h hs ha
  obtain ⟨n, f, h4, _, h5, h6, h7⟩ := HasK_row h2 hC hn
  exact ⟨_, x, r, h1, le1_of h5, by rw [rowL_length]; exact h6, h7, h3⟩
/-- Rows of slices. -/
theorem codR_acc {h0 : ∀ l a, C.dec l = some a → C.good l → leZ0L l (C.enc a)} (hC : C.Acc ks wf) (hn : Nat.beq ks.length C.n = true) : (codR C h0).Acc [.sl ks] fun l => l.length ≤ maxLen ∧ ∀ a ∈ l, wf a := by
  intro svs h
  simp only [HasKL] at h
  obtain ⟨x, r, rfl, hx, rfl⟩ := h
  obtain ⟨n, f, rfl, h1, _, h3, h4⟩ := HasK_row hx hC hn
  exact ⟨rowL C n f, by simp only [codR, hn], h1, by rw [rowL_length]; exact h3, h4⟩
end
/-- The walk of a law, from its condition. -/
theorem law_run {P : Program} {T : List (Nat × Ctr)} (hT : TabOK P T) {f : Nat} {fn : Func} (hm : P.follows .mixedOrders = true) (hf : P.funcs[f]? = some fn) (hb : fn.body = some (codeOf fn)) {A : List Ann} {xs ys : List SV} {r : SV} (hvc : callVA P (tab T) fn (codeOf fn) A ys r)
    {W : World} {args : Array Value} (hrel : RelL (roOf W) Own.empty xs args.toList) (hle : le1L xs ys) (hlen : Nat.ble ys.length fn.ntmps = true) :
    Calls P f args W fun e W' => ∃ v R', e = .returned v ∧ Rel R' Own.empty r v ∧ ROle (roOf W) R' ∧ (∀ b o v, R' b o = some v → W'.cell? ⟨b, o, none⟩ = some v) ∧ (∀ b o, b < W.heap.size → R' b o = (roOf W) b o) ∧ Below W.heap.size W W' := by
  unfold callVA at hvc
  rw [LSt.force_eq] at hvc
  exact call_of hf hb (Nat.le_of_ble_eq_true hlen) (fun E hE hK Q hn hx hr a w hs => execA_sound (E := E) hK (X := ⟨P, fn.ntmps, tab T⟩) hE (tab_ok hT) hm _ _ _ _ _ _ hvc Q hn hx hr a w hs) (roOf W) W args (fun _ _ _ h => h) (le1L_relL hle hrel)
end Go.Sx
