/-
  A law's arguments, opened by type; her statement from her walk's condition.
-/
import Derived.Test.YtjbhnbbegkdplaaEngX
namespace Go.Sx
set_option linter.unusedVariables false
set_option linter.unusedSimpArgs false
open Go Go.RowKit

theorem HasArgs.one {P : Program} {t : TypeId} {ts : List TypeId} {xs : List SV} {ks : List CS} {agg : Bool} (h : HasArgs P (t :: ts) xs) (hs : shapeOf P 9 t = some ks) (ha : isAggT P t = some agg) : ∃ svs r, HasKL ks svs ∧ xs = argSV agg svs :: r ∧ HasArgs P ts r := by
  obtain ⟨ks', agg', svs, r, h1, h2, h3, h4, h5⟩ := h
  rw [hs] at h1; rw [ha] at h2
  cases h1; cases h2
  exact ⟨svs, r, h3, h4, h5⟩
/-- All cells of these kinds are values of the type. -/
def Cod.Acc {α : Type} (C : Cod α) (ks : List CS) (wf : α → Prop) : Prop := ∀ svs, HasKL ks svs → ∃ a, C.dec svs = some a ∧ wf a
theorem codI_acc {ik : IntKind} : (codI ik).Acc [.int ik] fun n => (Lit.int ik n).wf = true := by
  intro svs h
  simp only [HasKL, HasK] at h
  obtain ⟨x, r, rfl, ⟨n, rfl, hn⟩, rfl⟩ := h
  exact ⟨n, rI_self ik n, hn⟩
theorem codB_acc : codB.Acc [.bool] fun _ => True := by
  intro svs h
  simp only [HasKL, HasK] at h
  obtain ⟨x, r, rfl, ⟨n, rfl⟩, rfl⟩ := h
  exact ⟨n, rfl, trivial⟩
theorem codS_acc : codS.Acc [.str] fun s => s.length ≤ maxLen := by
  intro svs h
  simp only [HasKL, HasK] at h
  obtain ⟨x, r, rfl, ⟨n, rfl, hn⟩, rfl⟩ := h
  exact ⟨n, rfl, hn⟩
theorem cellsOfSegs_self : ∀ (l : List SV), cellsOfSegs (l.map .s) = some l
  | [] => rfl
  | x :: r => by simp [cellsOfSegs, cellsOfSegs_self r]
section
variable {P : Program} {t : TypeId} {ts : List TypeId} {xs : List SV} {α : Type} {C : Cod α} {ks : List CS} {wf : α → Prop}
theorem open_struct (h : HasArgs P (t :: ts) xs) (hs : shapeOf P 9 t = some ks) (ha : isAggT P t = some true) (hC : C.Acc ks wf) : ∃ a x r, xs = x :: r ∧ leB nokp nonl x ((argA C).enc a) ∧ wf a ∧ HasArgs P ts r := by
  obtain ⟨svs, r, h1, h2, h3⟩ := h.one hs ha
  obtain ⟨a, h4, h5⟩ := hC svs h1
  exact ⟨a, _, r, h2, leZL_leSegs (C.ok _ _ h4), h5, h3⟩
theorem open_scalar {x0 : CS} (h : HasArgs P (t :: ts) xs) (hs : shapeOf P 9 t = some [x0]) (ha : isAggT P t = some false) : ∃ x r, xs = x :: r ∧ HasK x0 x ∧ HasArgs P ts r := by
  obtain ⟨svs, r, h1, h2, h3⟩ := h.one hs ha
  simp only [HasKL] at h1
  obtain ⟨x, q, rfl, hx, rfl⟩ := h1
  exact ⟨x, r, h2, hx, h3⟩
theorem open_int {ik : IntKind} (h : HasArgs P (t :: ts) xs) (hs : shapeOf P 9 t = some [.int ik]) (ha : isAggT P t = some false) : ∃ n r, xs = .int ik n :: r ∧ (Lit.int ik n).wf = true ∧ HasArgs P ts r := by
  obtain ⟨x, r, h1, h2, h3⟩ := open_scalar h hs ha
  simp only [HasK] at h2
  obtain ⟨n, rfl, hn⟩ := h2
  exact ⟨n, r, h1, hn, h3⟩
theorem open_bool (h : HasArgs P (t :: ts) xs) (hs : shapeOf P 9 t = some [.bool]) (ha : isAggT P t = some false) : ∃ n r, xs = .bool n :: r ∧ HasArgs P ts r := by
  obtain ⟨x, r, h1, h2, h3⟩ := open_scalar h hs ha
  simp only [HasK] at h2
  obtain ⟨n, rfl⟩ := h2
  exact ⟨n, r, h1, h3⟩
theorem open_str (h : HasArgs P (t :: ts) xs) (hs : shapeOf P 9 t = some [.str]) (ha : isAggT P t = some false) : ∃ n r, xs = .str n :: r ∧ n.length ≤ maxLen ∧ HasArgs P ts r := by
  obtain ⟨x, r, h1, h2, h3⟩ := open_scalar h hs ha
  simp only [HasK] at h2
  obtain ⟨n, rfl, hn⟩ := h2
  exact ⟨n, r, h1, hn, h3⟩
theorem HasK_row {x : SV} (h : HasK (.sl ks) x) (hC : C.Acc ks wf) (hn : Nat.beq ks.length C.n = true) : ∃ l : List α, (argR C).dec x = some (rowP C l.length (fun i => (match x with | .ros _ _ f => f i | _ => [])), l) ∧ leB nokp nonl x (encR C l) ∧ l.length ≤ maxLen ∧ ∀ a ∈ l, wf a := by
  simp only [HasK] at h
  obtain ⟨n, f, rfl, hm, hf⟩ := h
  have hp : rowP C n f := fun i hi => by
    obtain ⟨a, ha, _⟩ := hC _ (hf i hi)
    rw [ha]; rfl
  have hd : (argR C).dec (.ros ks.length n f) = some (rowP C n f, rowL C n f) := by
    simp only [argR, hn]
  refine ⟨rowL C n f, by rw [hd, rowL_length], (argR C).ok _ _ _ hd hp, by rw [rowL_length]; exact hm, fun a ha => ?_⟩
  simp only [rowL, List.mem_map, List.mem_range] at ha
  obtain ⟨i, hi, rfl⟩ := ha
  obtain ⟨b, hb, hw⟩ := hC _ (hf i hi)
  rw [hb]; exact hw
theorem open_row (h : HasArgs P (t :: ts) xs) (hs : shapeOf P 9 t = some [.sl ks]) (ha : isAggT P t = some false) (hC : C.Acc ks wf) (hn : Nat.beq ks.length C.n = true) : ∃ l x r, xs = x :: r ∧ leB nokp nonl x (encR C l) ∧ l.length ≤ maxLen ∧ (∀ a ∈ l, wf a) ∧ HasArgs P ts r := by
  obtain ⟨x, r, h1, h2, h3⟩ := open_scalar h hs ha
  obtain ⟨l, _, h4, h5, h6⟩ := HasK_row h2 hC hn
  exact ⟨l, x, r, h1, h4, h5, h6, h3⟩
end
theorem leB_int {ik : IntKind} {n : Int} : leB nokp nonl (.int ik n) (.int ik n) := by simp [leB, leE, leZ, leZ0, andB]
theorem leB_bool {n : Bool} : leB nokp nonl (.bool n) (.bool n) := rfl
theorem leB_str {n : List UInt8} : leB nokp nonl (.str n) (.str n) := rfl
/-- The walk of a law, from its condition. -/
theorem law_run {P : Program} {T : List (Nat × Ctr)} (hT : TabOK P T) {f : Nat} {fn : Func} (hm : P.follows .mixedOrders = true) (hf : P.funcs[f]? = some fn) (hb : fn.body = some (codeOf fn)) {A : List Ann} {xs ys : List SV} {r : SV} (hvc : callVA P (tab T) fn (codeOf fn) A ys r)
    {W : World} {args : Array Value} (hrel : RelL (roOf W) Own.empty xs args.toList) (hle : leBL nokp nonl xs ys) (hlen : Nat.ble ys.length fn.ntmps = true) :
    Calls P f args W fun e W' => ∃ v R', e = .returned v ∧ Rel R' Own.empty r v ∧ ROle (roOf W) R' ∧ (∀ b o v, R' b o = some v → W'.cell? ⟨b, o, none⟩ = some v) ∧ (∀ b o, b < W.heap.size → R' b o = (roOf W) b o) ∧ Below W.heap.size W W' := by
  unfold callVA at hvc
  rw [LSt.force_eq] at hvc
  exact call_of hf hb (Nat.le_of_ble_eq_true hlen) (fun E hE Q hn hx hr a w hs => execA_sound (E := E) (X := ⟨P, fn.ntmps, tab T⟩) hE (tab_ok hT) hm _ _ _ _ _ _ hvc Q hn hx hr a w hs) (roOf W) W args (fun _ _ _ h => h) (leBL_relL (Kp.none _ _) hle hrel)
end Go.Sx
