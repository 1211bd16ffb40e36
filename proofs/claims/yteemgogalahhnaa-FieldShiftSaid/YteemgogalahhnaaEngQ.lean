/-
  A region's soundness: in the text's order, and, where its operations do not touch one another, in every order that the edges allow.
-/
import Derived.Test.YteemgogalahhnaaEngP
namespace Go.Sx
set_option linter.unusedVariables false
set_option linter.unusedSimpArgs false
open Go Go.RowKit

def StepOK (E : Env) (P : Program) (ops : Array Oper) (i : Nat) (s : St) (R : List Loc) (ws : List (Loc × Item)) : Prop :=
  ∀ s' : St, (∀ l ∈ R, s' l = s l) → ∀ (w : World) (a : Act) (Q : Exit → Act → World → Prop) (K : Act → World → Prop), Sim E s' w a → (∀ a' w', Sim E (s'.apply ws) w' a' → K a' w') → wpOp P ops Q i K a w
structure Step where
  R : List Loc
  ws : List (Loc × Item)

section
variable {E : Env}
theorem Sim.retm {s : St} {w : World} {a : Act} {t : Nat} {x y : SV} (h : Sim E (s.put (.tm t) (.v x)) w a) (hxy : ∀ ro own v, Rel ro own x v → Rel ro own y v) : Sim E (s.put (.tm t) (.v y)) w a := by
  obtain ⟨ro, own, h⟩ := h
  have hne : ∀ l, (∀ t', l ≠ .tm t') → (s.put (.tm t) (.v y)) l = (s.put (.tm t) (.v x)) l := fun l hl => by rw [St.put_ne _ _ (hl t), St.put_ne _ _ (hl t)]
  have hsg : ∀ i n, (s.put (.tm t) (.v y)).segs i n = (s.put (.tm t) (.v x)).segs i n := fun i n => St.segs_congr fun q _ => hne _ (by simp)
  refine ⟨ro, own, { below := h.below, base := h.base, defs := h.defs, size := h.size, tm := ?_, rook := h.rook, rold := h.rold, ent := ?_, fr := ?_, frv := ?_, inj := ?_, kk := h.kk }⟩
  · intro t' sv ht
    by_cases e : t' = t
    · subst e
      rw [St.put_self] at ht
      simp at ht; subst ht
      exact hxy _ _ _ (h.tm t' x (St.put_self _ _ _))
    · rw [St.put_ne _ _ (by simpa using e)] at ht
      exact h.tm t' sv (by rw [St.put_ne _ _ (by simpa using e)]; exact ht)
  · intro i m hm; rw [hne _ (by simp)] at hm; rw [hsg]; exact h.ent i m hm
  · intro i hm; rw [hne _ (by simp)] at hm; exact h.fr i hm
  · intro i m hm; rw [hne _ (by simp)] at hm; exact h.frv i m hm
  · intro i i' m m' b h1 h2; rw [hne _ (by simp)] at h1 h2; exact h.inj i i' m m' b h1 h2
theorem tt_of {ro : RO} {own : Own} {v : Value} {b : Bool} (hb : b = true) (h : Rel ro own (.bool b) v) : Rel ro own .tt v := by
  rw [inv_bool h, hb]; exact .tt _
theorem ff_of {ro : RO} {own : Own} {v : Value} {b : Bool} (hb : b = false) (h : Rel ro own (.bool b) v) : Rel ro own .ff v := by
  rw [inv_bool h, hb]; exact .ff _
/-- The slot of a guard, as the model sees it. -/
theorem yielded_of {s : St} {w : World} {a : Act} {ops : Array Oper} {j t : Nat} (h : Sim E s w a) (hj : guardSlot ops j = some t) (ht : t < E.N) {x : SV} (hx : s (.tm t) = .v x) : ∀ v, (∃ ro own, Rel ro own x v ∧ a.tmps.getD t undef = v) → yielded ops a.tmps j = match v with | .bool b => some b | _ => none := by
  rintro v ⟨ro, own, hr, hv⟩
  obtain ⟨_, _, hg⟩ := h
  have hsz : t < a.tmps.size := by rw [hg.size]; exact ht
  unfold yielded
  unfold guardSlot at hj
  have e : a.tmps[t]? = some v := by
    rw [Array.getD_eq_getD_getElem?, getElem?_pos a.tmps t hsz] at hv
    rw [getElem?_pos a.tmps t hsz]; simpa using hv
  rw [hj]
  simp only [Option.bind_some, e]
  cases v <;> rfl
theorem contW_ok : ∀ {ws : List (Loc × Item)} {s : LSt} {k : LSt → Prop}, contW s ws k → ∃ s' : LSt, s'.get = St.apply s.get ws ∧ k s'
  | [], s, k, h => ⟨s, rfl, h⟩
  | (l, x) :: r, s, k, h => by
    obtain ⟨s1, h1, h2⟩ := LSt.setW_ok h
    obtain ⟨s2, h3, h4⟩ := contW_ok h2
    exact ⟨s2, by rw [h3, LSt.set_get h1]; rfl, h4⟩
theorem skipW_ok {d : Option Tmp} {s : LSt} {k : LSt → Prop} (h : skipW s d k) : ∃ s' : LSt, s'.get = St.apply s.get (undefW d) ∧ k s' := by
  unfold skipW at h
  split at h
  · exact ⟨s, rfl, h⟩
  · rename_i t
    split at h
    · rename_i ht
      refine ⟨s, ?_, h⟩
      funext l
      simp only [undefW, St.apply]
      by_cases e : l = .tm t
      · subst e; rw [St.put_self, ht]
      · rw [St.put_ne _ _ e]
    · exact contW_ok h
theorem stepW_ok {ops : Array Oper} {i : Nat} {ws : List (Loc × Item)} {k : List (Loc × Item) → Prop} (h : stepW ops i ws k) : k ws ∨ ∃ t b, ws = [(.tm t, .v (.bool b))] ∧ ((b = true ∧ k [(.tm t, .v .tt)]) ∨ (b = false ∧ k [(.tm t, .v .ff)])) := by
  unfold stepW at h
  split at h
  · rename_i t b
    split at h
    · refine .inr ⟨t, b, rfl, ?_⟩
      cases b with
      | true => exact .inl ⟨rfl, h.1 rfl⟩
      | false => exact .inr ⟨rfl, h.2 rfl⟩
    · exact .inl h
  · exact .inl h
theorem runOps_trace {X : Ctx} (hN : E.N = X.N) (hC : ∀ f c, X.C f = some c → FnOK X.P f c) {ops : Array Oper} : ∀ {l : List Oper} {i : Nat} {s : LSt} {tr : List Tr} {k : LSt → List Tr → Prop}, runOps X ops l i s tr k → (∀ j, j < l.length → l[j]? = ops[i + j]?) → (∀ o ∈ l, ∀ t, (match o.guard with | some (j, _) => guardSlot ops j = some t → t < E.N | none => True)) →
    (∀ o ∈ l, ∀ d, o.dst = some d → d < E.N) →
    ∃ (st : List Step) (s1 : LSt), st.length = l.length ∧ s1.get = St.apply s.get (st.flatMap (·.ws)) ∧ k s1 (tr ++ st.map fun x => (x.R, x.ws.map (·.1))) ∧ ∀ (m : Nat) (x : Step), st[m]? = some x → StepOK E X.P ops (i + m) (St.apply s.get ((st.take m).flatMap (·.ws))) x.R x.ws
  | [], i, s, tr, k, h, _, _, _ => ⟨[], s, rfl, rfl, by simpa [runOps] using h, by simp⟩
  | o :: rest, i, s, tr, k, h, hops, hgs, hds => by
    have hoi : ops[i]? = some o := by simpa using (hops 0 (by simp)).symm
    -- one step done: the rest by induction
    have fin : ∀ {R : List Loc} {ws : List (Loc × Item)}, StepOK E X.P ops i s.get R ws → (∃ s' : LSt, s'.get = St.apply s.get ws ∧ runOps X ops rest (i + 1) s' (tr ++ [(R, ws.map (·.1))]) k) →
        ∃ (st : List Step) (s1 : LSt), st.length = (o :: rest).length ∧ s1.get = St.apply s.get (st.flatMap (·.ws)) ∧ k s1 (tr ++ st.map fun x => (x.R, x.ws.map (·.1))) ∧ ∀ (m : Nat) (x : Step), st[m]? = some x → StepOK E X.P ops (i + m) (St.apply s.get ((st.take m).flatMap (·.ws))) x.R x.ws := by
      intro R ws hstep hc
      obtain ⟨s', hs', hk⟩ := hc
      obtain ⟨st, s1, h1, h2, h3, h4⟩ := runOps_trace hN hC hk (fun j hj => by have := hops (j + 1) (by simpa using hj); simpa [Nat.add_assoc, Nat.add_comm 1 j] using this) (fun o' ho' => hgs o' (by simp [ho'])) (fun o' ho' => hds o' (by simp [ho']))
      rw [hs'] at h2 h4
      refine ⟨⟨R, ws⟩ :: st, s1, by simp [h1], by simp [h2, apply_append], by simpa [List.append_assoc] using h3, fun m x hx => ?_⟩
      cases m with
      | zero => simp at hx; subst hx; exact hstep
      | succ m =>
        simp at hx
        have := h4 m x hx
        simp only [List.take_succ_cons, List.flatMap_cons, apply_append]
        rw [show i + (m + 1) = i + 1 + m from by omega]
        exact this
    -- the operation is carried out
    have wanted : ∀ {R0 : List Loc}, (∀ (s' : St) (w : World) (a : Act), (∀ l ∈ R0, s' l = s.get l) → Sim E s' w a → Region.wanted o (yielded ops a.tmps) = true) →
        ((txOp X.P X.N X.C s.en.length o).run s R0 fun R ws => forceWs ws fun ws => stepW ops i ws fun ws => contW s ws fun s' => runOps X ops rest (i + 1) s' (tr ++ [(R, ws.map (·.1))]) k) →
        ∃ (st : List Step) (s1 : LSt), st.length = (o :: rest).length ∧ s1.get = St.apply s.get (st.flatMap (·.ws)) ∧ k s1 (tr ++ st.map fun x => (x.R, x.ws.map (·.1))) ∧ ∀ (m : Nat) (x : Step), st[m]? = some x → StepOK E X.P ops (i + m) (St.apply s.get ((st.take m).flatMap (·.ws))) x.R x.ws := by
      intro R0 hw hrun
      obtain ⟨ws0, R, hok, hk, hR, hR0⟩ := Tx.run_ok hrun
      rw [forceWs_eq] at hk
      have base : ∀ (s' : St), (∀ l ∈ R, s' l = s.get l) → ∀ (w : World) (a : Act) (Q : Exit → Act → World → Prop) (K : Act → World → Prop), Sim E s' w a → (∀ a' w', Sim E (s'.apply ws0) w' a' → K a' w') → wpOp X.P ops Q i K a w := by
        intro s' hag w a Q K hs hK
        unfold wpOp
        rw [hoi]
        simp only [hw s' w a (fun l hl => hag l (hR0 l hl)) hs, if_true]
        left
        obtain ⟨ro, own, hsg⟩ := hs
        have hok' : (txOp X.P E.N X.C s.en.length o).ok s' ws0 := by
          rw [hN]
          exact Tx.local _ (fun l hl => hag l (hR l hl)) _ hok
        exact Oper.wp_mono (fun a' w' h' => hK a' w' h') (op_sound hC hsg hok' Q)
      have hk1 := stepW_ok hk
      clear hk
      rcases hk1 with hk2 | ⟨t, b, rfl, hk2⟩
      · exact fin base (contW_ok hk2)
      · rcases hk2 with ⟨hb, hk⟩ | ⟨hb, hk⟩
        · refine fin (fun s' hag w a Q K hs hK => base s' hag w a Q K hs fun a' w' h' => hK a' w' ?_) (contW_ok hk)
          exact Sim.retm h' fun _ _ _ hr => tt_of hb hr
        · refine fin (fun s' hag w a Q K hs hK => base s' hag w a Q K hs fun a' w' h' => hK a' w' ?_) (contW_ok hk)
          exact Sim.retm h' fun _ _ _ hr => ff_of hb hr
    -- it is passed over
    have skipped : ∀ {R0 : List Loc}, (∀ (s' : St) (w : World) (a : Act), (∀ l ∈ R0, s' l = s.get l) → Sim E s' w a → Region.wanted o (yielded ops a.tmps) = false) →
        (skipW s o.dst fun s' => runOps X ops rest (i + 1) s' (tr ++ [(R0, (undefW o.dst).map (·.1))]) k) →
        ∃ (st : List Step) (s1 : LSt), st.length = (o :: rest).length ∧ s1.get = St.apply s.get (st.flatMap (·.ws)) ∧ k s1 (tr ++ st.map fun x => (x.R, x.ws.map (·.1))) ∧ ∀ (m : Nat) (x : Step), st[m]? = some x → StepOK E X.P ops (i + m) (St.apply s.get ((st.take m).flatMap (·.ws))) x.R x.ws := by
      intro R0 hw hk
      refine fin (fun s' hag w a Q K hs hK => ?_) (skipW_ok hk)
      unfold wpOp
      rw [hoi]
      simp only [hw s' w a hag hs, Bool.false_eq_true, if_false]
      refine hK _ _ ?_
      obtain ⟨ro, own, hsg⟩ := hs
      cases hd : o.dst with
      | none => exact ⟨ro, own, hsg⟩
      | some d => exact ⟨ro, own, hsg.put (hds o (by simp) d hd) (.tup _ [] #[] rfl (by simp))⟩
    simp only [runOps, forceNat_eq] at h
    split at h
    · rename_i hgd
      exact wanted (R0 := []) (fun _ _ _ _ _ => by simp [Region.wanted, hgd]) h
    · rename_i j want hgd
      split at h
      case h_2 => exact h.elim
      rename_i t hj
      have htN : t < E.N := by
        have := hgs o (by simp) t
        rw [hgd] at this
        exact this hj
      have yl : ∀ {x : SV} (s' : St) (w : World) (a : Act), s.get (.tm t) = .v x → (∀ l ∈ [Loc.tm t], s' l = s.get l) → Sim E s' w a → ∃ v, (∃ ro own, Rel ro own x v) ∧ yielded ops a.tmps j = match v with | .bool b => some b | _ => none := by
        intro x s' w a hx hag hs
        have hx' : s' (.tm t) = .v x := by rw [hag _ (by simp), hx]
        obtain ⟨ro, own, hsg⟩ := hs
        have hr := hsg.tm t x hx'
        exact ⟨_, ⟨ro, own, hr⟩, yielded_of ⟨ro, own, hsg⟩ hj htN hx' _ ⟨ro, own, hr, rfl⟩⟩
      split at h
      · rename_i hx
        have y1 : ∀ (s' : St) (w : World) (a : Act), (∀ l ∈ [Loc.tm t], s' l = s.get l) → Sim E s' w a → yielded ops a.tmps j = some true := by
          intro s' w a hag hs
          obtain ⟨v, ⟨_, _, hr⟩, hy⟩ := yl s' w a hx hag hs
          rw [hy, inv_tt hr]
        split at h
        · rename_i hw
          exact wanted (fun s' w a hag hs => by simp [Region.wanted, hgd, y1 s' w a hag hs, hw]) h
        · rename_i hw
          exact skipped (fun s' w a hag hs => by simp [Region.wanted, hgd, y1 s' w a hag hs, hw]) h
      · rename_i hx
        have y1 : ∀ (s' : St) (w : World) (a : Act), (∀ l ∈ [Loc.tm t], s' l = s.get l) → Sim E s' w a → yielded ops a.tmps j = some false := by
          intro s' w a hag hs
          obtain ⟨v, ⟨_, _, hr⟩, hy⟩ := yl s' w a hx hag hs
          rw [hy, inv_ff hr]
        split at h
        · rename_i hw
          exact skipped (fun s' w a hag hs => by simp [Region.wanted, hgd, y1 s' w a hag hs, hw]) h
        · rename_i hw
          exact wanted (fun s' w a hag hs => by simp [Region.wanted, hgd, y1 s' w a hag hs, hw]) h
      · rename_i hx
        refine skipped (fun s' w a hag hs => ?_) h
        obtain ⟨v, ⟨_, _, hr⟩, hy⟩ := yl s' w a hx hag hs
        obtain ⟨vs, hv, _⟩ := inv_tup hr
        rw [hv] at hy
        simp [Region.wanted, hgd, hy]
      · exact h.elim
/-- In the text's order. -/
theorem steps_seq {P : Program} {ops : Array Oper} {Q : Exit → Act → World → Prop} : ∀ (st : List Step) (i : Nat) (s : St), (∀ (m : Nat) (x : Step), st[m]? = some x → StepOK E P ops (i + m) (s.apply ((st.take m).flatMap (·.ws))) x.R x.ws) →
    (∀ a w, Sim E (s.apply (st.flatMap (·.ws))) w a → Q .normal a w) → ∀ a w, Sim E s w a → wpOps P ops Q (List.range' i st.length) a w
  | [], i, s, _, hQ, a, w, hs => hQ a w hs
  | x :: r, i, s, hst, hQ, a, w, hs => by
    rw [List.length_cons, List.range'_succ, wpOps_cons]
    have h0 := hst 0 x rfl
    simp only [List.take_zero, List.flatMap_nil, Nat.add_zero] at h0
    refine h0 s (fun _ _ => rfl) w a Q _ hs fun a' w' hs' => ?_
    refine steps_seq r (i + 1) (s.apply x.ws) (fun m y hy => ?_) (fun a w h' => hQ a w (by rw [List.flatMap_cons, apply_append]; exact h')) a' w' hs'
    have := hst (m + 1) y (by simpa using hy)
    rw [List.take_succ_cons, List.flatMap_cons, apply_append, show i + (m + 1) = i + 1 + m from by omega] at this
    exact this
end
end Go.Sx
