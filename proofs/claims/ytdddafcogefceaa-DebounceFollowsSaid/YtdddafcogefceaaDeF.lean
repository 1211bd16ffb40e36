import Derived.Test.YtdddafcogefceaaDeE
namespace Go.Proofs.De
set_option linter.unusedVariables false
set_option linter.unusedSimpArgs false
open Go Go.Sx Go.Proofs
set_option maxRecDepth 100000
def codFW (a : Filter) : Prop := (Lit.int .i64 a.close).wf = true ∧ (Lit.int .i64 a.open_).wf = true
theorem codF_acc : codF.Acc [.int .i64, .int .i64] codFW := by
  intro svs h
  simp only [HasKL, HasK] at h
  obtain ⟨x0, r0, rfl, ⟨a0, rfl, h0⟩, x1, r1, rfl, ⟨a1, rfl, h1⟩, rfl⟩ := h
  exact ⟨⟨a0, a1⟩, rfl, trivial, h0, h1⟩
theorem ints_open {ik : IntKind} : ∀ {n : Nat} {svs : List SV}, HasKL (List.replicate n (.int ik)) svs → ∃ ct : List Int, ct.length = n ∧ svs = ct.map (.int ik) ∧ ∀ x ∈ ct, (Lit.int ik x).wf = true
  | 0, svs, h => by simp only [List.replicate, HasKL] at h; exact ⟨[], rfl, h, by simp⟩
  | n + 1, svs, h => by
    simp only [List.replicate_succ, HasKL, HasK] at h
    obtain ⟨x, r, rfl, ⟨a, rfl, ha⟩, h⟩ := h
    obtain ⟨ct, h1, rfl, h3⟩ := ints_open h
    exact ⟨a :: ct, by simp [h1], rfl, by simpa using ⟨ha, h3⟩⟩
theorem le1_arr {ik : IntKind} (x : SV) (ct : List Int) : le1 (.agg ((x :: ct.map (.int ik)).map .s)) (.agg [.s x, .a ct.length 1 fun j => [.int ik (ct.getD j 0)]]) := by
  refine le1_segs ?_ fun k sv hk => ?_
  · rw [segsSize_map_s]; simp [segsSize, Seg.size]; omega
  · rw [flat_map_s]
    cases k with
    | zero => simpa [flat_s0] using hk
    | succ k =>
      rw [flat_ss] at hk
      have hlt : k < ct.length * 1 := by have := flat_lt hk; simpa [segsSize, Seg.size] using this
      rw [flat_al hlt] at hk
      simp only [Nat.div_one, Nat.mod_one, List.getElem?_cons_zero, Option.some.injEq] at hk
      subst hk
      simp [List.getD_eq_getElem?_getD, show k < ct.length by omega]
theorem u64_facts {n : Int} (h : (Lit.int .u64 n).wf = true) : isU n := by
  simp [Lit.wf, IntKind.min, IntKind.max, IntKind.signed, IntKind.bits] at h
  exact ⟨h.1, by omega⟩
theorem open_D {P : Program} {t : TypeId} {ts : List TypeId} {xs : List SV} (h : HasArgs P (t :: ts) xs) (hs : shapeOf P 9 t = some (.int .u64 :: List.replicate 64 (.int .i64))) (ha : isAggT P t = some true) : ∃ d x r, xs = x :: r ∧ le1 x (encD d) ∧ okD d ∧ HasArgs P ts r := by
  obtain ⟨svs, r, h1, h2, h3⟩ := h.one hs ha
  simp only [HasKL, HasK] at h1
  obtain ⟨x, q, rfl, ⟨c, rfl, hc⟩, hq⟩ := h1
  obtain ⟨ct, k1, rfl, k3⟩ := ints_open hq
  refine ⟨⟨c, ct⟩, _, r, h2, ?_, ⟨u64_facts hc, k1⟩, h3⟩
  have := le1_arr (ik := .i64) (.int .u64 c) ct
  rw [k1] at this
  exact this
theorem okR_of {rs : List Int} (h : ∀ a ∈ rs, (Lit.int .u64 a).wf = true) : okR rs := fun r hr => u64_facts (h r hr)
end Go.Proofs.De
