/-
  Calls that are carried out on the caller's own blocks: closures that capture them, and functions whose rows the caller turns. In regions whose order is the text's.
-/
import Derived.Test.YteemgogalahhnaaEngZ
namespace Go.Sx
set_option linter.unusedVariables false
set_option linter.unusedSimpArgs false
open Go Go.RowKit

/-- The functions that are carried out so. -/
abbrev Inl := Nat → Option Func
structure InlOK (P : Program) (I : Inl) : Prop where
  ok : ∀ f fn, I f = some fn → P.funcs[f]? = some fn ∧ fn.body = some (codeOf fn) ∧ (fn.name == "runtime.NumGoroutine") = false ∧ noLoop (codeOf fn) = true
def calleeOf (s : LSt) (o : Oper) : Option (Nat × List SV × List SV × Call) := match o.guard with
  | some _ => none
  | none => match o.op with
    | .call c => match c.callee with
      | .value (.func f) => some (f, [], [], c)
      | .value (.tmp t) => match s.get (.tm t) with
        | .v (.fn f a b) => some (f, a, b, c)
        | _ => none
      | _ => none
    | _ => none
def inlSt (n : Nat) (args : List SV) (s : LSt) : LSt := ⟨args ++ List.replicate (n - args.length) (.tup []), s.en⟩
def backW (s sE : LSt) (dst : Option Tmp) (r : SV) (k : LSt → Prop) : Prop := match dst with
  | some d => (LSt.mk s.tm sE.en).setW (.tm d) (.v r) fun s => s.force k
  | none => (LSt.mk s.tm sE.en).force k
def inlEnd (P : Program) (fn : Func) (dst : Option Tmp) (s : LSt) (k : LSt → Prop) (sE : LSt) : Prop :=
  (resAll P fn.results.toList fun xs => .done [(.tm 0, .v (oneOf xs))]).run sE [] fun _ ws => match ws with
    | [(_, .v r)] => backW s sE dst r k
    | _ => False
def inlW (X : Ctx) (fn : Func) (args : List SV) (dst : Option Tmp) (s : LSt) (k : LSt → Prop) : Prop := match Nat.ble args.length fn.ntmps with
  | true => (inlSt fn.ntmps args s).force fun s0 => exec ⟨X.P, fn.ntmps, X.C⟩ (codeOf fn) s0 (inlEnd X.P fn dst s k) (fun _ _ => False) (inlEnd X.P fn dst s k)
  | false => False
def seqOps (X : Ctx) (I : Inl) (ops : Array Oper) : List Oper → Nat → LSt → (LSt → Prop) → Prop
  | [], _, s, k => k s
  | o :: rest, i, s, k =>
    let plain : Prop := runOps X ops [o] i s [] fun s' _ => seqOps X I ops rest (i + 1) s' k
    match calleeOf s o with
    | some (f, a, b, c) => match I f with
      | some fn => (rdOs c.args.toList fun xs => .done [(.tm 0, .v (.tup xs))]).run s [] fun _ ws => match ws with
        | [(_, .v (.tup xs))] => inlW X fn (a ++ xs ++ b) o.dst s fun s' => seqOps X I ops rest (i + 1) s' k
        | _ => False
      | none => plain
    | none => plain

section
variable {E : Env} {X : Ctx} {I : Inl} {ro : RO} {own : Own} {w : World} {a : Act}
theorem back_ok {s sE : LSt} {dst : Option Tmp} {r : SV} {k : LSt → Prop} (h : backW s sE dst r k) {w' : World} {v : Value} (hs : SimG E ro own (LSt.mk s.tm sE.en).get w' a) (hd : ∀ d, dst = some d → d < E.N) (hr : Rel ro own r v) : ∃ s' : LSt, k s' ∧ Sim E s'.get w' (a.put dst v) := by
  unfold backW at h
  cases dst with
  | some d =>
    obtain ⟨s1, h1, h2⟩ := LSt.setW_ok h
    rw [LSt.force_eq] at h2
    exact ⟨s1, h2, ro, own, by rw [LSt.set_get h1]; exact hs.put (hd d rfl) hr⟩
  | none =>
    simp only at h
    rw [LSt.force_eq] at h
    exact ⟨_, h, ro, own, hs⟩
theorem inl_calls (hC : ∀ f c, X.C f = some c → FnOK X.P f c) (hm : X.P.follows .mixedOrders = true) (hI : InlOK X.P I) {f : Nat} {fn : Func} (hf : I f = some fn) {s : LSt} (h : SimG E ro own s.get w a) {args : List SV} {vals : Array Value} (hr : RelL ro own args vals.toList)
    {dst : Option Tmp} {k : LSt → Prop} (hd : ∀ d, dst = some d → d < E.N) (hk : inlW X fn args dst s k) : Calls X.P f vals w fun e w' => ∃ v, e = .returned v ∧ ∃ s' : LSt, k s' ∧ Sim E s'.get w' (a.put dst v) := by
  obtain ⟨hf1, hb, hname, hnl⟩ := hI.ok f fn hf
  unfold inlW at hk
  split at hk
  case h_2 => exact hk.elim
  rename_i hble
  have hlen := Nat.le_of_ble_eq_true hble
  rw [LSt.force_eq] at hk
  have hsz : vals.size = args.length := by have := hr.length; simp at this; omega
  let E' : Env := ⟨E.B, E.w0, E.R, fn.ntmps, fun o r => own.le o ∧ ROle ro r, fun o o' r r' h1 h2 h3 => ⟨h3.1.trans h1, h3.2.trans h2⟩⟩
  let a0 : Act := { tmps := vals ++ Array.replicate (fn.ntmps - vals.size) undef, defers := [] }
  have hs0 : Sim E' (inlSt fn.ntmps args s).get w a0 := by
    refine ⟨ro, own, { below := h.below, base := h.base, defs := rfl, size := ?_, tm := ?_, rook := h.rook, rold := h.rold, ent := fun id m hm => h.ent id m hm, fr := fun id hm => h.fr id hm, frv := fun id m hm => h.frv id m hm, inj := fun id id' m m' b h1 h2 => h.inj id id' m m' b h1 h2, kk := ⟨.refl _, .refl _⟩ }⟩
    · simp [a0, E']; omega
    · intro t sv ht
      simp only [LSt.get, inlSt, Item.v.injEq] at ht
      by_cases h1 : t < args.length
      · have e1 : (args ++ List.replicate (fn.ntmps - args.length) (SV.tup []))[t]? = args[t]? := List.getElem?_append_left h1
        rw [List.getD_eq_getElem?_getD, e1, List.getElem?_eq_getElem h1] at ht
        simp at ht; subst ht
        obtain ⟨v, hv, hr⟩ := hr.at t _ (List.getElem?_eq_getElem h1)
        have h2 : t < vals.size := by omega
        have : a0.tmps.getD t undef = v := by
          simp only [Array.getElem?_toList] at hv
          simp [a0, Array.getElem?_append, h2]
          simpa [Array.getElem?_eq_getElem h2] using hv
        rw [this]; exact hr
      · by_cases h2 : t < fn.ntmps
        · have e1 : (args ++ List.replicate (fn.ntmps - args.length) (SV.tup []))[t]? = some (.tup []) := by
            rw [List.getElem?_append_right (by omega), List.getElem?_replicate, if_pos (by omega)]
          rw [List.getD_eq_getElem?_getD, e1] at ht
          simp at ht; subst ht
          have : a0.tmps.getD t undef = undef := by
            have h3 : ¬ t < vals.size := by omega
            have h4 : t - vals.size < fn.ntmps - vals.size := by omega
            simp [a0, Array.getElem?_append, h3, h4, Array.getElem?_replicate]
          rw [this]; exact .tup _ _ _ rfl (by simp)
        · rw [List.getD_eq_getElem?_getD, List.getElem?_eq_none (by simp; omega)] at ht
          simp at ht; subst ht; exact .any _ _
  have done : ∀ sE : LSt, inlEnd X.P fn dst s k sE → ∀ a' w', Sim E' sE.get w' a' → a'.defers = [] ∧ ∃ v, (results fn a'.tmps).run X.P w' = .ok v w' ∧ ∃ v', Ending.returned v = .returned v' ∧ ∃ s' : LSt, k s' ∧ Sim E s'.get w' (a.put dst v') := by
    intro sE he a' w' hs
    obtain ⟨ro2, own2, hg⟩ := hs
    unfold inlEnd at he
    obtain ⟨ws, _, hok, hk2, _⟩ := Tx.run_ok he
    obtain ⟨xs, vs, h1, h2, hws⟩ := resAll_ok hg hok
    have hws : ws = [(.tm 0, .v (oneOf xs))] := Eq.symm hws
    subst hws
    simp only at hk2
    obtain ⟨hle, hro⟩ := hg.kk
    have hs2 : SimG E ro2 own2 (LSt.mk s.tm sE.en).get w' a := { below := hg.below, base := hg.base, defs := h.defs, size := h.size, tm := fun t sv ht => (h.tm t sv ht).mono hro hle, rook := hg.rook, rold := hg.rold, ent := fun id m hm => hg.ent id m hm, fr := fun id hm => hg.fr id hm, frv := fun id m hm => hg.frv id m hm, inj := fun id id' m m' b e1 e2 => hg.inj id id' m m' b e1 e2, kk := E.mono _ _ _ _ hle hro h.kk }
    exact ⟨hg.defs, _, results_run h1, _, rfl, back_ok hk2 hs2 hd h2.one⟩
  refine calls_of_wp hf1 hb ?_
  exact exec_sound (E := E') (X := ⟨X.P, fn.ntmps, X.C⟩) rfl hC hm (codeOf fn) (.inl hnl) _ _ _ _ hk _ (fun s1 h1 a w hs => done s1 h1 a w hs) (fun _ _ h1 => h1.elim) (fun s1 h1 a w hs => done s1 h1 a w hs) a0 w hs0
theorem seqOps_sound (hN : E.N = X.N) (hC : ∀ f c, X.C f = some c → FnOK X.P f c) (hm : X.P.follows .mixedOrders = true) (hI : InlOK X.P I) {ops : Array Oper} {Q : Exit → Act → World → Prop} : ∀ (l : List Oper) (i : Nat) (s : LSt) (k : LSt → Prop), seqOps X I ops l i s k → (∀ j, l[j]? = ops[i + j]?) →
    (∀ o ∈ l, ∀ t, (match o.guard with | some (j, _) => guardSlot ops j = some t → t < E.N | none => True)) → (∀ o ∈ l, ∀ d, o.dst = some d → d < E.N) →
    (∀ s : LSt, k s → ∀ a w, Sim E s.get w a → Q .normal a w) → ∀ a w, Sim E s.get w a → wpOps X.P ops Q (List.range' i l.length) a w
  | [], i, s, k, h, _, _, _, hQ, a, w, hs => hQ s h a w hs
  | o :: rest, i, s, k, h, hops, hgs, hds, hQ, a, w, hs => by
    have hoi : ops[i]? = some o := by simpa using (hops 0).symm
    have hrest : ∀ s', seqOps X I ops rest (i + 1) s' k → ∀ a w, Sim E s'.get w a → wpOps X.P ops Q (List.range' (i + 1) rest.length) a w := fun s' h' a w hs' =>
      seqOps_sound hN hC hm hI rest (i + 1) s' k h' (fun j => by have := hops (j + 1); simpa [Nat.add_assoc, Nat.add_comm 1 j] using this) (fun o' ho' => hgs o' (by simp [ho'])) (fun o' ho' => hds o' (by simp [ho'])) hQ a w hs'
    rw [List.length_cons, List.range'_succ, wpOps_cons]
    have plain : (runOps X ops [o] i s [] fun s' _ => seqOps X I ops rest (i + 1) s' k) → wpOp X.P ops Q i (wpOps X.P ops Q (List.range' (i + 1) rest.length)) a w := fun h1 => by
      obtain ⟨st, s1, h2, h3, h4, h5⟩ := runOps_trace hN hC h1 (fun j hj => by
        have : j = 0 := by simpa using hj
        subst this; simpa using hops 0) (fun o' ho' => hgs o' (by simp at ho'; simp [ho'])) (fun o' ho' => hds o' (by simp at ho'; simp [ho']))
      match st, h2 with
      | [x], _ =>
        have h0 := h5 0 x rfl
        simp only [List.take_zero, List.flatMap_nil, Nat.add_zero] at h0
        refine h0 s.get (fun _ _ => rfl) w a Q _ hs fun a' w' hs' => hrest s1 h4 a' w' ?_
        rw [h3]; simpa using hs'
    unfold seqOps at h
    simp only at h
    split at h
    · rename_i f ca cb c hcal
      split at h
      · rename_i fn hfn
        obtain ⟨ro, own, hg⟩ := hs
        obtain ⟨ws, _, hok, hk2, _⟩ := Tx.run_ok h
        obtain ⟨xs, hxs, hws⟩ := rdOs_ok hg hok
        have hws : ws = [(.tm 0, .v (.tup xs))] := Eq.symm hws
        subst hws
        simp only at hk2
        have hguard : o.guard = none := by
          unfold calleeOf at hcal
          split at hcal
          · cases hcal
          · assumption
        obtain ⟨g, va, vb, hop, hcc, hv, hva, hvb⟩ : ∃ g va vb, o.op = .call c ∧ c.callee = .value g ∧ a.eval g = .func (.func f) va vb ∧ RelL ro own ca va.toList ∧ RelL ro own cb vb.toList := by
          unfold calleeOf at hcal
          rw [hguard] at hcal
          simp only at hcal
          split at hcal
          case h_2 => cases hcal
          rename_i c' hop
          split at hcal
          · rename_i f' hcc
            simp only [Option.some.injEq, Prod.mk.injEq] at hcal
            obtain ⟨rfl, rfl, rfl, rfl⟩ := hcal
            exact ⟨_, #[], #[], hop, hcc, rfl, trivial, trivial⟩
          · rename_i t hcc
            split at hcal
            case h_2 => cases hcal
            rename_i f' ca' cb' ht
            simp only [Option.some.injEq, Prod.mk.injEq] at hcal
            obtain ⟨rfl, rfl, rfl, rfl⟩ := hcal
            obtain ⟨va, vb, hv, hva, hvb⟩ := inv_fn (hg.tm t _ ht)
            exact ⟨_, va, vb, hop, hcc, hv, hva, hvb⟩
          · cases hcal
        have hrel : RelL ro own (ca ++ xs ++ cb) (va ++ c.args.map a.eval ++ vb).toList := by
          simp only [Array.toList_append, Array.toList_map]
          exact (hva.append hxs).append hvb
        have hcall := inl_calls hC hm hI hfn hg hrel (dst := o.dst) (fun d hd => hds o (by simp) d hd) hk2
        obtain ⟨e1, e2, e3, _⟩ := hI.ok f fn hfn
        unfold wpOp
        rw [hoi]
        simp only [Region.wanted, hguard, if_true]
        left
        have hrun : (execOp a.eval o).run X.P w = .ok (.enter f (va ++ c.args.map a.eval ++ vb)) w := by
          unfold execOp
          simp only [hop, resolve, hcc, hv, Deferred.ofValue, Sem.run_bind, Sem.run_pure, Result.andThen_ok, invoke]
          exact run_callFunc e1 (by simp [e2]) e3
        unfold Oper.wp
        rw [hrun]
        show Calls X.P f _ w _
        refine hcall.mono ?_
        rintro e w' ⟨v, rfl, s', hk', hs'⟩
        exact hrest s' hk' _ _ hs'
      · exact plain h
    · exact plain h
/-- As execA; a region in the text's order may hold calls on the caller's own blocks. -/
def execJ (X : Ctx) (I : Inl) : Code → List Ann → LSt → (LSt → Prop) → (Nat → LSt → Prop) → (LSt → Prop) → Prop
  | .skip, _, s, kn, _, _ => kn s
  | .label _, _, s, kn, _, _ => kn s
  | .seq a b, A, s, kn, kx, kr => execJ X I a A s (fun s => execJ X I b (A.drop (nloops a)) s kn kx kr) kx kr
  | .cond c a b, A, s, kn, kx, kr => condW c s (fun s => execJ X I a A s kn kx kr) (fun s => execJ X I b (A.drop (nloops a)) s kn kx kr)
  | .block id c, A, s, kn, kx, kr => execJ X I c A s kn (fun i s => match Nat.beq i id with | true => kn s | false => kx i s) kr
  | .exit id, _, s, _, kx, _ => kx id s
  | .ret, _, s, _, _, kr => kr s
  | .region _ ops draw, _, s, kn, _, _ => match regOK X.N ops with
    | true => match draw with
      | true => runOps X ops ops.toList 0 s [] fun s tr => drawOK true ops tr ∧ kn s
      | false => seqOps X I ops ops.toList 0 s kn
    | false => False
  | .loop c, A, s, _, kx, kr => match A with
    | [] => False
    | ⟨p0, p, I0, μ⟩ :: A => p0.rd s fun x0 => wrW s (clrs (dsts c [])) fun s1 =>
      (p.rd s fun x => I0 x0 x ∧ wrW s1 (p.ws s1 x) fun s2 => leSt s s2) ∧
      p.all fun x => I0 x0 x → wrW s1 (p.ws s1 x) fun s2 => execJ X I c A s2 (fun s' => p.rd s' fun x' => I0 x0 x' ∧ μ x0 x' < μ x0 x ∧ wrW s1 (p.ws s1 x') fun s3 => leSt s' s3) kx kr
  | _, _, _, _, _, _ => False
theorem execJ_sound (hK : ∀ o r, E.K o r) (hN : E.N = X.N) (hC : ∀ f c, X.C f = some c → FnOK X.P f c) (hm : X.P.follows .mixedOrders = true) (hI : InlOK X.P I) : ∀ (c : Code) (A : List Ann) (s : LSt) (kn : LSt → Prop) (kx : Nat → LSt → Prop) (kr : LSt → Prop), execJ X I c A s kn kx kr →
    ∀ Q : Exit → Act → World → Prop, (∀ s : LSt, kn s → ∀ a w, Sim E s.get w a → Q .normal a w) → (∀ (i : Nat) (s : LSt), kx i s → ∀ a w, Sim E s.get w a → Q (.exit i) a w) → (∀ s : LSt, kr s → ∀ a w, Sim E s.get w a → Q .ret a w) →
    ∀ a w, Sim E s.get w a → c.wp X.P Q a w := by
  intro c
  induction c with
  | skip => intro A s kn kx kr h Q hn hx hr a w hs; exact wp_skip (hn s h a w hs)
  | label l => intro A s kn kx kr h Q hn hx hr a w hs; exact wp_label (hn s h a w hs)
  | seq x y ihx ihy =>
    intro A s kn kx kr h Q hn hx hr a w hs
    exact wp_seq (ihx A s _ _ _ h (Exit.then (y.wp X.P Q) Q) (fun s1 h1 a w hs => ihy _ s1 _ _ _ h1 Q hn hx hr a w hs) hx hr a w hs)
  | cond c x y ihx ihy =>
    intro A s kn kx kr h Q hn hx hr a w hs
    exact condW_ok h hs (fun s1 h1 hs1 => ihx _ s1 _ _ _ h1 Q hn hx hr a w hs1) (fun s1 h1 hs1 => ihy _ s1 _ _ _ h1 Q hn hx hr a w hs1)
  | block id x ih =>
    intro A s kn kx kr h Q hn hx hr a w hs
    refine wp_block (ih A s _ _ _ h (Exit.inBlock id Q) hn (fun i s1 h1 a w hs => ?_) hr a w hs)
    simp only [Exit.inBlock]
    split at h1
    · rename_i he
      rw [if_pos (Nat.eq_of_beq_eq_true he)]; exact hn s1 h1 a w hs
    · rename_i he
      rw [if_neg (Nat.ne_of_beq_eq_false he)]; exact hx i s1 h1 a w hs
  | exit id => intro A s kn kx kr h Q hn hx hr a w hs; exact wp_exit (hx id s h a w hs)
  | ret => intro A s kn kx kr h Q hn hx hr a w hs; exact wp_ret (hr s h a w hs)
  | loop c ih =>
    intro A s kn kx kr h Q hn hx hr a w hs
    cases A with
    | nil => exact h.elim
    | cons A0 A =>
    obtain ⟨p0, p, I0, μ⟩ := A0
    simp only [execJ] at h
    obtain ⟨x0, h⟩ := p0.ok _ _ h
    have h := wrW_ok h
    obtain ⟨h1, h2⟩ := h
    generalize s.wr (clrs (dsts c [])) = s1 at h1 h2
    obtain ⟨x1, hI0, h1⟩ := p.ok _ _ h1
    have h1 := wrW_ok h1
    have h2 := p.allok _ h2
    refine wp_loop_ghost (fun n a w => ∃ x, I0 x0 x ∧ μ x0 x = n ∧ Sim E (s1.wr (p.ws s1 x)).get w a) (μ x0 x1) ⟨x1, hI0, rfl, sim_le hK h1 hs⟩ ?_
    rintro n a w ⟨x, hI0, rfl, hs⟩
    refine ih A _ _ _ _ (wrW_ok (h2 x hI0)) (Exit.then _ Q) (fun s2 h3 a w hs => ?_) hx hr a w hs
    obtain ⟨x', hI', hlt, h3⟩ := p.ok _ _ h3
    exact ⟨μ x0 x', hlt, x', hI', rfl, sim_le hK (wrW_ok h3) hs⟩
  | region id ops draw =>
    intro A s kn kx kr h Q hn hx hr a w hs
    cases draw with
    | true =>
      refine exec_sound hN hC hm (.region id ops true) (.inr hK) s kn kx kr ?_ Q hn hx hr a w hs
      unfold execJ at h
      unfold exec
      split at h
      case h_2 => exact h.elim
      rename_i hok
      rw [hok]
      exact h
    | false =>
      unfold execJ at h
      split at h
      case h_2 => exact h.elim
      rename_i hok
      simp only [regOK, List.all_eq_true, Bool.and_eq_true] at hok
      refine wp_region ?_
      have := seqOps_sound (Q := Q) hN hC hm hI ops.toList 0 s kn h (fun j => by simp) (fun o ho t => by
        have := (hok o ho).2
        split
        · rename_i j b hg
          intro ht
          simp only [hg, ht] at this
          rw [hN]
          simpa [Nat.blt_eq] using this
        · trivial) (fun o ho d hd => by
        have := (hok o ho).1
        rw [hd] at this
        rw [hN]; simpa [Nat.blt_eq] using this) hn a w hs
      rw [Array.length_toList, ← List.range_eq_range'] at this
      exact this
  | _ => intro A s kn kx kr h; exact h.elim
end
/-- What must hold of a call with these arguments, its loops being said and some calls being carried out in place. -/
def callVJ (P : Program) (C : Nat → Option Ctr) (I : Inl) (fn : Func) (code : Code) (A : List Ann) (args : List SV) (r : SV) : Prop :=
  (startSt fn.ntmps args).force fun s => execJ ⟨P, fn.ntmps, C⟩ I code A s (endOK P fn r) (fun _ _ => False) (endOK P fn r)
theorem fn_tabJ {P : Program} {T : List (Nat × Ctr)} (hT : TabOK P T) {I : Inl} (hI : InlOK P I) {f : Nat} {fn : Func} (hm : P.follows .mixedOrders = true) (hf : P.funcs[f]? = some fn) (hb : fn.body = some (codeOf fn)) (hname : (fn.name == "runtime.NumGoroutine") = false)
    {α : Type} {n : Nat} {dec : List SV → Option (Prop × α)} {enc : α → List SV} {pre : α → Prop} {res : α → SV} (hd : DecOK n dec enc) (hn : Nat.ble n fn.ntmps = true) (A : α → List Ann) (H : ∀ a, pre a → callVJ P (tab T) I fn (codeOf fn) (A a) (enc a) (res a)) : TabOK P ((f, ctr dec pre res) :: T) := by
  refine ⟨⟨⟨fn, hf, by simp [hb], hname⟩, fun args p r hc hp R w vals hR hrel => ?_⟩, hT⟩
  unfold ctr at hc
  rw [forceL_eq] at hc
  split at hc
  case h_2 => cases hc
  rename_i q a ha
  simp only [Option.some.injEq, Prod.mk.injEq] at hc
  obtain ⟨rfl, rfl⟩ := hc
  obtain ⟨h1, h2⟩ := hd _ _ _ ha hp.1
  have hvc := H _ hp.2
  unfold callVJ at hvc
  rw [LSt.force_eq] at hvc
  exact call_of hf hb (by rw [← (leBL_at h1).1, h2]; exact Nat.le_of_ble_eq_true hn) (fun E hE hK Q hn hx hr a w hs => execJ_sound (E := E) hK (X := ⟨P, fn.ntmps, tab T⟩) hE (tab_ok hT) hm hI _ _ _ _ _ _ hvc Q hn hx hr a w hs) R w vals hR (leBL_relL (Kp.none _ _) h1 hrel)
end Go.Sx
