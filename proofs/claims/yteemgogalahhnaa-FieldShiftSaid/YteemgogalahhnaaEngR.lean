/-
  Every order that the edges allow gives what the text's order gives.
-/
import Derived.Test.YteemgogalahhnaaEngQ
namespace Go.Sx
set_option linter.unusedVariables false
set_option linter.unusedSimpArgs false
open Go Go.RowKit

def Loc.enc : Loc → Nat
  | .tm t => 3 * t
  | .mt i => 3 * i + 1
  | .sg i q => 3 * (64 * i + q) + 2
def maskOf : List Loc → Nat
  | [] => 0
  | l :: r => (1 <<< l.enc) ||| maskOf r
theorem maskOf_mem : ∀ {L : List Loc} {l : Loc}, l ∈ L → (maskOf L).testBit l.enc = true
  | x :: r, l, h => by
    simp only [maskOf, Nat.testBit_or, Bool.or_eq_true]
    rcases List.mem_cons.1 h with rfl | h
    · left; simp [Nat.one_shiftLeft, Nat.testBit_two_pow_self]
    · right; exact maskOf_mem h
theorem apart_of {A B : List Loc} (h : maskOf A &&& maskOf B = 0) {l : Loc} (ha : l ∈ A) : l ∉ B := fun hb => by
  have := congrArg (·.testBit l.enc) h
  simp [Nat.testBit_and, maskOf_mem ha, maskOf_mem hb] at this
def directs (ops : Array Oper) : List (List Nat) := ops.toList.map fun o => (o.after.toList.filter (Region.binds .any)).map (·.on)
def cl (acc : List Nat) : List Nat → Nat
  | [] => 0
  | d :: r => ((1 <<< d) ||| acc.getD d 0) ||| cl acc r
def closure : List (List Nat) → List Nat → List Nat
  | [], acc => acc
  | ds :: r, acc => closure r (acc ++ [cl acc ds])
theorem cl_sound {acc : List Nat} {b : Nat} : ∀ {ds : List Nat}, (cl acc ds).testBit b = true → b ∈ ds ∨ ∃ d ∈ ds, (acc.getD d 0).testBit b = true
  | d :: r, h => by
    simp only [cl, Nat.testBit_or, Bool.or_eq_true] at h
    rcases h with (h | h) | h
    · rw [Nat.one_shiftLeft, Nat.testBit_two_pow] at h
      left; simp at h; simp [h]
    · exact .inr ⟨d, by simp, h⟩
    · rcases cl_sound h with h | ⟨d', h1, h2⟩
      · exact .inl (by simp [h])
      · exact .inr ⟨d', by simp [h1], h2⟩
  | [], h => by simp [cl] at h
theorem closure_sound {dirs : List (List Nat)} {D : Nat → Prop} (hc : ∀ (j : Nat) (ds : List Nat), dirs[j]? = some ds → D j → ∀ d ∈ ds, D d) : ∀ (rest pre : List (List Nat)) (acc : List Nat), dirs = pre ++ rest → acc.length = pre.length →
    (∀ (j m : Nat), acc[j]? = some m → (∀ ds, dirs[j]? = some ds → ∀ d ∈ ds, D d) → ∀ b, m.testBit b = true → D b) → ∀ (j m : Nat), (closure rest acc)[j]? = some m → (∀ ds, dirs[j]? = some ds → ∀ d ∈ ds, D d) → ∀ b, m.testBit b = true → D b
  | [], pre, acc, _, _, h => h
  | ds :: r, pre, acc, hd, hl, h => by
    refine closure_sound hc r (pre ++ [ds]) (acc ++ [cl acc ds]) (by simp [hd]) (by simp [hl]) ?_
    intro j m hj hds b hb
    rcases Nat.lt_or_ge j acc.length with h1 | h1
    · rw [List.getElem?_append_left h1] at hj
      exact h j m hj hds b hb
    · have h2 : j = acc.length := by
        have := (List.getElem?_eq_some_iff.1 hj).1
        simp at this; omega
      subst h2
      simp at hj; subst hj
      have hdd : dirs[acc.length]? = some ds := by rw [hd, hl]; simp
      rcases cl_sound hb with h3 | ⟨d, h3, h4⟩
      · exact hds ds hdd b h3
      · have hDd := hds ds hdd d h3
        cases hm : acc[d]? with
        | none => rw [List.getD_eq_getElem?_getD, hm] at h4; simp at h4
        | some m' =>
          rw [List.getD_eq_getElem?_getD, hm] at h4
          exact h d m' hm (fun ds' h' => hc d ds' h' hDd) b h4
def okWith (i ri wi : Nat) : List (Nat × Nat × Nat) → Bool
  | [] => true
  | (m, r, w) :: rest => (m.testBit i || (Nat.beq (wi &&& (r ||| w)) 0 && Nat.beq (w &&& ri) 0)) && okWith i ri wi rest
def okAll : Nat → List (Nat × Nat × Nat) → Bool
  | _, [] => true
  | i, (_, r, w) :: rest => okWith i r w rest && okAll (i + 1) rest
theorem okWith_spec {i ri wi : Nat} : ∀ {l : List (Nat × Nat × Nat)}, okWith i ri wi l = true → ∀ x ∈ l, x.1.testBit i = true ∨ (wi &&& (x.2.1 ||| x.2.2) = 0 ∧ x.2.2 &&& ri = 0)
  | (m, r, w) :: rest, h, x, hx => by
    simp only [okWith, Bool.and_eq_true, Bool.or_eq_true] at h
    rcases List.mem_cons.1 hx with rfl | hx
    · rcases h.1 with h | h
      · exact .inl h
      · exact .inr ⟨Nat.eq_of_beq_eq_true h.1, Nat.eq_of_beq_eq_true h.2⟩
    · exact okWith_spec h.2 x hx
theorem okAll_spec : ∀ {l : List (Nat × Nat × Nat)} {k : Nat}, okAll k l = true → ∀ (i j : Nat) (x y : Nat × Nat × Nat), i < j → l[i]? = some x → l[j]? = some y → y.1.testBit (k + i) = true ∨ (x.2.2 &&& (y.2.1 ||| y.2.2) = 0 ∧ y.2.2 &&& x.2.1 = 0)
  | [], k, _, i, j, x, y, _, hx, _ => by simp at hx
  | (m, r, w) :: rest, k, h, i, j, x, y, hij, hx, hy => by
    simp only [okAll, Bool.and_eq_true] at h
    cases j with
    | zero => omega
    | succ j =>
      simp at hy
      cases i with
      | zero =>
        simp at hx; subst hx
        exact okWith_spec h.1 y (List.mem_of_getElem? hy)
      | succ i =>
        simp at hx
        have := okAll_spec h.2 i j x y (by omega) hx hy
        rwa [show k + 1 + i = k + (i + 1) from by omega] at this
def backs : Nat → List (List Nat) → Bool
  | _, [] => true
  | i, ds :: r => ds.all (fun d => Nat.blt d i) && backs (i + 1) r
theorem backs_spec : ∀ {l : List (List Nat)} {k : Nat}, backs k l = true → ∀ (i : Nat) (ds : List Nat), l[i]? = some ds → ∀ d ∈ ds, d < k + i
  | ds :: r, k, h, i, ds', hi, d, hd => by
    simp only [backs, Bool.and_eq_true, List.all_eq_true] at h
    cases i with
    | zero => simp at hi; subst hi; simpa [Nat.blt_eq] using h.1 d hd
    | succ i =>
      simp at hi
      have := backs_spec h.2 i ds' hi d hd
      omega
def zipM : List Nat → List Tr → List (Nat × Nat × Nat)
  | m :: ms, t :: ts => (m, maskOf t.1, maskOf t.2) :: zipM ms ts
  | _, _ => []
theorem zipM_get : ∀ {ms : List Nat} {ts : List Tr} {i m : Nat} {t : Tr}, ms[i]? = some m → ts[i]? = some t → (zipM ms ts)[i]? = some (m, maskOf t.1, maskOf t.2)
  | _ :: _, _ :: _, 0, m, t, h1, h2 => by simp at h1 h2; subst h1 h2; rfl
  | _ :: _, _ :: _, i + 1, m, t, h1, h2 => by simp at h1 h2; simpa [zipM] using zipM_get h1 h2
def anyOK (ops : Array Oper) (tr : List Tr) : Bool :=
  backs 0 (directs ops) && okAll 0 (zipM (closure (directs ops) []) tr)
theorem closure_length : ∀ (l : List (List Nat)) (acc : List Nat), (closure l acc).length = acc.length + l.length
  | [], acc => by simp [closure]
  | _ :: r, acc => by rw [closure, closure_length r]; simp; omega

/-! ### States after some of the steps -/
section
variable {E : Env}
def stD : List Step → Nat → (Nat → Bool) → St → St
  | [], _, _, s => s
  | x :: r, i, D, s => stD r (i + 1) D (if D i then s.apply x.ws else s)
theorem apply_at : ∀ (ws : List (Loc × Item)) {s s' : St} {l : Loc}, (s l = s' l ∨ l ∈ ws.map (·.1)) → (s.apply ws) l = (s'.apply ws) l
  | [], _, _, _, h => h.resolve_right (by simp)
  | (l', x) :: r, s, s', l, h => by
    simp only [St.apply]
    apply apply_at r
    by_cases e : l = l'
    · subst e; left; rw [St.put_self, St.put_self]
    · rw [St.put_ne _ _ e, St.put_ne _ _ e]
      rcases h with h | h
      · exact .inl h
      · right; simpa [e] using h
theorem apply_out : ∀ (ws : List (Loc × Item)) {s : St} {l : Loc}, l ∉ ws.map (·.1) → (s.apply ws) l = s l
  | [], _, _, _ => rfl
  | (l', x) :: r, s, l, h => by
    simp at h
    simp only [St.apply]
    rw [apply_out r (by simpa using h.2), St.put_ne _ _ h.1]
theorem stD_congr : ∀ (st : List Step) {i : Nat} {D D' : Nat → Bool} {s s' : St} {l : Loc}, s l = s' l → (∀ (m : Nat) (x : Step), st[m]? = some x → D (i + m) = D' (i + m) ∨ l ∉ x.ws.map (·.1)) → stD st i D s l = stD st i D' s' l
  | [], _, _, _, _, _, _, h, _ => h
  | x :: r, i, D, D', s, s', l, h, hm => by
    simp only [stD]
    refine stD_congr r ?_ fun m y hy => by
      have := hm (m + 1) y (by simpa using hy)
      rwa [show i + (m + 1) = i + 1 + m from by omega] at this
    rcases hm 0 x rfl with h0 | h0
    · simp only [Nat.add_zero] at h0
      rw [h0]
      split
      · exact apply_at _ (.inl h)
      · exact h
    · have e1 := apply_out x.ws (s := s) h0
      have e2 := apply_out x.ws (s := s') h0
      split <;> split <;> simp only [e1, e2, h]
theorem stD_none : ∀ (st : List Step) (i : Nat) (s : St), stD st i (fun _ => false) s = s
  | [], _, _ => rfl
  | x :: r, i, s => by simp only [stD]; exact stD_none r (i + 1) s
theorem stD_last : ∀ (st : List Step) {i : Nat} {D : Nat → Bool} {s : St} {m : Nat} {x : Step} {l : Loc}, st[m]? = some x → D (i + m) = true → l ∈ x.ws.map (·.1) →
    (∀ (m' : Nat) (x' : Step), m < m' → st[m']? = some x' → D (i + m') = true → l ∉ x'.ws.map (·.1)) → ∀ s'' : St, stD st i D s l = (s''.apply x.ws) l
  | x :: r, i, D, s, 0, y, l, hy, hD, hl, h, s'' => by
    simp at hy; subst hy
    simp only [Nat.add_zero] at hD
    simp only [stD, hD, if_true]
    have : stD r (i + 1) D (s.apply x.ws) l = stD r (i + 1) (fun _ => false) (s.apply x.ws) l := stD_congr r rfl fun m y hy => by
      cases hd : D (i + 1 + m) with
      | false => exact .inl rfl
      | true => exact .inr (h (m + 1) y (by omega) (by simpa using hy) (by rw [show i + (m + 1) = i + 1 + m from by omega]; exact hd))
    rw [this, stD_none]
    exact apply_at _ (.inr hl)
  | x :: r, i, D, s, m + 1, y, l, hy, hD, hl, h, s'' => by
    simp only [stD]
    exact stD_last r (i := i + 1) (by simpa using hy) (by rw [show i + 1 + m = i + (m + 1) from by omega]; exact hD) hl (fun m' x' hm hx hd => h (m' + 1) x' (by omega) (by simpa using hx) (by rw [show i + (m' + 1) = i + 1 + m' from by omega]; exact hd)) s''
theorem stD_take : ∀ (st : List Step) (i k : Nat) (s : St), stD st i (fun m => decide (m < i + k)) s = s.apply ((st.take k).flatMap (·.ws))
  | [], i, k, s => by simp [stD, St.apply]
  | x :: r, i, 0, s => by
    have : (fun m => decide (m < i + 0)) i = false := by simp
    simp only [stD, this]
    have h2 : ∀ l, stD r (i + 1) (fun m => decide (m < i + 0)) s l = stD r (i + 1) (fun _ => false) s l := fun l => stD_congr r rfl fun m y _ => .inl (by simp; omega)
    funext l
    simp only [Bool.false_eq_true, if_false, h2 l, stD_none]
    rfl
  | x :: r, i, k + 1, s => by
    have : (fun m => decide (m < i + (k + 1))) i = true := by simp
    simp only [stD, this, if_true]
    rw [List.take_succ_cons, List.flatMap_cons, apply_append, ← stD_take r (i + 1) k]
    congr 1
    funext m; congr 1; simp; omega
def unl : List Bool → Nat
  | [] => 0
  | b :: r => (if b then 0 else 1) + unl r
theorem unl_set : ∀ (l : List Bool) (i : Nat), l[i]? = some false → unl (l.set i true) + 1 = unl l
  | b :: r, 0, h => by simp at h; subst h; simp [unl]; omega
  | b :: r, i + 1, h => by
    have := unl_set r i (by simpa using h)
    simp only [List.set_cons_succ, unl]; omega
theorem unl_zero : ∀ (l : List Bool), unl l = 0 → ∀ (i : Nat), l[i]? ≠ some false
  | b :: r, h, 0 => by simp [unl] at h ⊢; exact h.1
  | b :: r, h, i + 1 => by simp only [unl] at h; simpa using unl_zero r (by omega) i
  | [], _, _ => by simp
theorem unl_replicate : ∀ n, unl (List.replicate n false) = n
  | 0 => rfl
  | n + 1 => by rw [List.replicate_succ, unl, unl_replicate n]; simp; omega
theorem steps_any {P : Program} {ops : Array Oper} {Q : Exit → Act → World → Prop} {st : List Step} {s : St} (hlen : st.length = ops.size)
    (hst : ∀ (m : Nat) (x : Step), st[m]? = some x → StepOK E P ops m (s.apply ((st.take m).flatMap (·.ws))) x.R x.ws) (hok : anyOK ops (st.map fun x => (x.R, x.ws.map (·.1))) = true)
    (hQ : ∀ a w, Sim E (s.apply (st.flatMap (·.ws))) w a → Q .normal a w) :
    ∀ (fuel : Nat) (listed : Array Bool), listed.size = ops.size → unl listed.toList ≤ fuel → (∀ (j : Nat) (o : Oper), ops[j]? = some o → listed.getD j false = true → ∀ e ∈ o.after, Region.binds .any e = true → listed.getD e.on false = true) →
    ∀ a w, Sim E (stD st 0 (fun m => listed.getD m false) s) w a → wpAny P .any ops Q fuel listed a w := by
  simp only [anyOK, Bool.and_eq_true] at hok
  have hdir : ∀ (j : Nat) (o : Oper), ops[j]? = some o → (directs ops)[j]? = some ((o.after.toList.filter (Region.binds .any)).map (·.on)) := fun j o ho => by
    simp only [directs, List.getElem?_map, Array.getElem?_toList, ho, Option.map_some]
  have hdirlen : (directs ops).length = ops.size := by simp [directs]
  -- what the check gives
  have hap : ∀ (listed : Array Bool), (∀ (j : Nat) (o : Oper), ops[j]? = some o → listed.getD j false = true → ∀ e ∈ o.after, Region.binds .any e = true → listed.getD e.on false = true) →
      ∀ (i j : Nat) (x y : Step), i < j → st[i]? = some x → st[j]? = some y → ((∀ o, ops[j]? = some o → ∀ e ∈ o.after, Region.binds .any e = true → listed.getD e.on false = true) → listed.getD i false = true) ∨
        ((∀ l ∈ x.ws.map (·.1), l ∉ y.R ∧ l ∉ y.ws.map (·.1)) ∧ ∀ l ∈ y.ws.map (·.1), l ∉ x.R) := by
    intro listed hcl i j x y hij hx hy
    have hjl : j < (directs ops).length := by rw [hdirlen, ← hlen]; exact (List.getElem?_eq_some_iff.1 hy).1
    have hil : i < (directs ops).length := by omega
    have hcll : (closure (directs ops) []).length = (directs ops).length := by simp [closure_length]
    obtain ⟨mi, hmi⟩ : ∃ m, (closure (directs ops) [])[i]? = some m := ⟨_, List.getElem?_eq_getElem (by omega)⟩
    obtain ⟨mj, hmj⟩ : ∃ m, (closure (directs ops) [])[j]? = some m := ⟨_, List.getElem?_eq_getElem (by omega)⟩
    have := okAll_spec hok.2 i j _ _ hij (zipM_get hmi (by rw [List.getElem?_map, hx]; rfl)) (zipM_get hmj (by rw [List.getElem?_map, hy]; rfl))
    rcases this with h | ⟨h1, h2⟩
    · left
      intro hr
      simp only [Nat.zero_add] at h
      refine closure_sound (dirs := directs ops) (D := fun m => listed.getD m false = true) ?_ (directs ops) [] [] rfl rfl (by simp) j mj hmj ?_ i h
      · intro j' ds hds hD d hd
        obtain ⟨o, ho⟩ : ∃ o, ops[j']? = some o := ⟨_, Array.getElem?_eq_getElem (by have := (List.getElem?_eq_some_iff.1 hds).1; omega)⟩
        rw [hdir j' o ho] at hds
        simp at hds; subst hds
        simp at hd
        obtain ⟨e, ⟨he1, he2⟩, rfl⟩ := hd
        exact hcl j' o ho hD e he1 he2
      · intro ds hds d hd
        obtain ⟨o, ho⟩ : ∃ o, ops[j]? = some o := ⟨_, Array.getElem?_eq_getElem (by omega)⟩
        rw [hdir j o ho] at hds
        simp at hds; subst hds
        simp at hd
        obtain ⟨e, ⟨he1, he2⟩, rfl⟩ := hd
        exact hr o ho e he1 he2
    · right
      have e : maskOf (x.ws.map (·.1)) &&& maskOf y.R = 0 ∧ maskOf (x.ws.map (·.1)) &&& maskOf (y.ws.map (·.1)) = 0 := by
        simp only [Nat.and_or_distrib_left] at h1
        exact Nat.or_eq_zero_iff.1 h1
      exact ⟨fun l hl => ⟨apart_of e.1 hl, apart_of e.2 hl⟩, fun l hl => apart_of h2 hl⟩
  -- all are listed when none is ready
  have hall : ∀ (listed : Array Bool), listed.size = ops.size → Region.ready .any ops listed = [] → ∀ i, i < ops.size → listed.getD i false = true := by
    intro listed hsz hr i
    induction i using Nat.strongRecOn with
    | _ i ih =>
      intro hi
      cases hd : listed.getD i false with
      | true => rfl
      | false =>
        exfalso
        have hm : i ∈ Region.ready .any ops listed := by
          rw [mem_ready]
          have hil : i < listed.size := by omega
          refine ⟨?_, _, Array.getElem?_eq_getElem hi, fun e he hb => ?_⟩
          · simpa [hil] using hd
          · have := backs_spec hok.1 i _ (hdir i _ (Array.getElem?_eq_getElem hi)) e.on (by
              simp only [List.mem_map, List.mem_filter]
              exact ⟨e, ⟨by simpa using he, hb⟩, rfl⟩)
            exact ih e.on (by omega) (by omega)
        rw [hr] at hm; cases hm
  have hdone : ∀ (listed : Array Bool), listed.size = ops.size → Region.ready .any ops listed = [] → ∀ a w, Sim E (stD st 0 (fun m => listed.getD m false) s) w a → Q .normal a w := by
    intro listed hsz hr a w hs
    refine hQ a w ?_
    have : stD st 0 (fun m => listed.getD m false) s = s.apply (st.flatMap (·.ws)) := by
      have e := stD_take st 0 st.length s
      rw [List.take_length] at e
      rw [← e]
      funext l
      refine stD_congr st rfl fun m x hx => .inl ?_
      have hm := (List.getElem?_eq_some_iff.1 hx).1
      have := hall listed hsz hr m (by omega)
      simp only [Nat.zero_add, this, hm, decide_true]
    rwa [this] at hs
  intro fuel
  induction fuel with
  | zero =>
    intro listed hsz hu hcl a w hs
    have hr : Region.ready .any ops listed = [] := by
      rw [List.eq_nil_iff_forall_not_mem]
      intro j hj
      obtain ⟨h0, o, ho, _⟩ := mem_ready.1 hj
      have hj : j < listed.size := by rw [hsz]; exact (Array.getElem?_eq_some_iff.1 ho).1
      refine unl_zero listed.toList (by omega) j ?_
      simp [hj] at h0 ⊢; exact h0
    exact ⟨hr, hdone listed hsz hr a w hs⟩
  | succ fuel ih =>
    intro listed hsz hu hcl a w hs
    refine ⟨fun hr => hdone listed hsz hr a w hs, fun i hi => ?_⟩
    obtain ⟨h0, o, ho, hpre⟩ := mem_ready.1 hi
    have hio : i < ops.size := (Array.getElem?_eq_some_iff.1 ho).1
    have hil : i < listed.size := by omega
    obtain ⟨x, hx⟩ : ∃ x, st[i]? = some x := ⟨_, List.getElem?_eq_getElem (by omega)⟩
    have hun : listed.getD i false = false := by simp [hil] at h0 ⊢; exact h0
    -- those that touch i's place
    have before : ∀ (m : Nat) (y : Step), m < i → st[m]? = some y → listed.getD m false = true ∨ ((∀ l ∈ y.ws.map (·.1), l ∉ x.R ∧ l ∉ x.ws.map (·.1)) ∧ ∀ l ∈ x.ws.map (·.1), l ∉ y.R) := fun m y hm hy => by
      rcases hap listed hcl m i y x hm hy hx with h | h
      · exact .inl (h fun o' ho' e he hb => by rw [ho] at ho'; cases ho'; exact hpre e he hb)
      · exact .inr h
    have later : ∀ (m : Nat) (y : Step), i < m → st[m]? = some y → listed.getD m false = true → ((∀ l ∈ x.ws.map (·.1), l ∉ y.R ∧ l ∉ y.ws.map (·.1)) ∧ ∀ l ∈ y.ws.map (·.1), l ∉ x.R) := fun m y hm hy hl => by
      rcases hap listed hcl i m x y hm hx hy with h | h
      · have := h fun o' ho' e he hb => hcl m o' ho' hl e he hb
        rw [hun] at this; cases this
      · exact h
    have agree : ∀ l ∈ x.R, stD st 0 (fun m => listed.getD m false) s l = (s.apply ((st.take i).flatMap (·.ws))) l := fun l hl => by
      rw [← stD_take st 0 i s]
      refine stD_congr st rfl fun m y hy => ?_
      simp only [Nat.zero_add]
      rcases Nat.lt_trichotomy m i with h | h | h
      · rcases before m y h hy with h1 | h1
        · left; simp [h1, h]
        · right; intro hw; exact (h1.1 l hw).1 hl
      · subst h; left; simp [hun]
      · cases hd : listed.getD m false with
        | false => left; simp; omega
        | true => right; intro hw; exact (later m y h hy hd).2 l hw hl
    have hset : ∀ m, (listed.setIfInBounds i true).getD m false = if m = i then true else listed.getD m false := fun m => by
      by_cases e : m = i
      · subst e; simp [hil]
      · rw [getD_set_ne false (Ne.symm e)]; simp [e]
    have grow : (stD st 0 (fun m => listed.getD m false) s).apply x.ws = stD st 0 (fun m => (listed.setIfInBounds i true).getD m false) s := by
      funext l
      by_cases hl : l ∈ x.ws.map (·.1)
      · rw [stD_last st (m := i) hx (by simp only [Nat.zero_add, hset]; simp) hl (fun m' y hm hy hd => by
          simp only [Nat.zero_add, hset] at hd
          rw [if_neg (by omega)] at hd
          exact fun hw => ((later m' y hm hy hd).1 l hl).2 hw)]
      · rw [apply_out _ hl]
        refine stD_congr st rfl fun m y hy => ?_
        simp only [Nat.zero_add, hset]
        by_cases e : m = i
        · subst e; rw [hx] at hy; cases hy; exact .inr hl
        · left; simp [e]
    refine hst i x hx _ agree w a Q _ hs fun a' w' hs' => ?_
    rw [grow] at hs'
    refine ih _ (by simp [hsz]) ?_ ?_ a' w' hs'
    · have := unl_set listed.toList i (by simp [hil] at h0 ⊢; exact h0)
      rw [Array.toList_setIfInBounds]; omega
    · intro j o' ho' hd e he hb
      rw [hset] at hd ⊢
      split
      · rfl
      · by_cases ej : j = i
        · subst ej; rw [ho] at ho'; cases ho'; exact hpre e he hb
        · rw [if_neg ej] at hd; exact hcl j o' ho' hd e he hb
end
end Go.Sx
