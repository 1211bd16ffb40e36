/-
  Loops with what they keep, said beforehand: which locations a round turns, what is kept of them, and what gets smaller; so a function with loops is one evaluation too.
-/
import Derived.Test.YteemgogalahhnaaEngU
namespace Go.Sx
set_option linter.unusedVariables false
set_option linter.unusedSimpArgs false
open Go Go.RowKit

/-- Some locations of a state, read and written as one Lean value. -/
structure Port where
  T : Type
  rd : LSt → (T → Prop) → Prop
  ws : LSt → T → List (Loc × Item)
  all : (T → Prop) → Prop
  ok : ∀ s k, rd s k → ∃ x, k x
  allok : ∀ k, all k → ∀ x, k x
def Port.unit : Port := ⟨Unit, fun _ k => k (), fun _ _ => [], fun k => k (), fun _ _ h => ⟨_, h⟩, fun _ h _ => h⟩
def Port.pair (p q : Port) : Port where
  T := p.T × q.T
  rd s k := p.rd s fun x => q.rd s fun y => k (x, y)
  ws s x := match x with | (x, y) => p.ws s x ++ q.ws s y
  all k := p.all fun x => q.all fun y => k (x, y)
  ok s k h := by
    obtain ⟨x, h⟩ := p.ok _ _ h
    obtain ⟨y, h⟩ := q.ok _ _ h
    exact ⟨(x, y), h⟩
  allok k h x := by obtain ⟨x, y⟩ := x; exact q.allok _ (p.allok _ h x) y
/-- What lies at a location, if it is one value. -/
def svAt (s : LSt) (l : Loc) (k : SV → Prop) : Prop := match s.get l with
  | .v x => k x
  | .s (.s x) => k x
  | _ => False
def itAt (l : Loc) (x : SV) : Item := match l with
  | .sg _ _ => .s (.s x)
  | _ => .v x
theorem svAt_ok {s : LSt} {l : Loc} {k : SV → Prop} (h : svAt s l k) : ∃ x, k x := by
  unfold svAt at h; split at h
  · exact ⟨_, h⟩
  · exact ⟨_, h⟩
  · exact h.elim
def Port.int (ik : IntKind) (l : Loc) : Port where
  T := Int
  rd s k := svAt s l fun | .int _ n => k n | _ => False
  ws _ n := [(l, itAt l (.int ik n))]
  all k := ∀ n, k n
  ok s k h := by
    obtain ⟨x, h⟩ := svAt_ok h
    split at h
    · exact ⟨_, h⟩
    · exact h.elim
  allok k h x := h x
def Port.bool (l : Loc) : Port where
  T := Bool
  rd s k := svAt s l fun | .bool n => k n | .tt => k true | .ff => k false | _ => False
  ws _ n := [(l, itAt l (.bool n))]
  all k := ∀ n, k n
  ok s k h := by
    obtain ⟨x, h⟩ := svAt_ok h
    split at h
    · exact ⟨_, h⟩
    · exact ⟨_, h⟩
    · exact ⟨_, h⟩
    · exact h.elim
  allok k h x := h x
def Port.str (l : Loc) : Port where
  T := List UInt8
  rd s k := svAt s l fun | .str n => k n | _ => False
  ws _ n := [(l, itAt l (.str n))]
  all k := ∀ n, k n
  ok s k h := by
    obtain ⟨x, h⟩ := svAt_ok h
    split at h
    · exact ⟨_, h⟩
    · exact h.elim
  allok k h x := h x
/-- A slice that is only read (of what lies elsewhere). -/
def Port.ros (E : Type) (es : Nat) (enc : E → List SV) (dec : List SV → E) (l : Loc) : Port where
  T := Nat × (Nat → E)
  rd s k := svAt s l fun | .ros _ n f => k (n, fun j => dec (f j)) | .nils => k (0, fun _ => dec []) | _ => False
  ws _ x := match x with | (n, g) => [(l, itAt l (.ros es n fun j => enc (g j)))]
  all k := ∀ n g, k (n, g)
  ok s k h := by
    obtain ⟨x, h⟩ := svAt_ok h
    split at h
    · exact ⟨_, h⟩
    · exact ⟨_, h⟩
    · exact h.elim
  allok k h x := by obtain ⟨n, g⟩ := x; exact h n g
/-- An own array of n elements. -/
def Port.arr (E : Type) (n es : Nat) (enc : E → List SV) (dec : List SV → E) (id q : Nat) : Port where
  T := Nat → E
  rd s k := match s.get (.sg id q) with | .s (.a _ _ f) => k fun j => dec (f j) | _ => False
  ws _ g := [(.sg id q, .s (.a n es fun j => enc (g j)))]
  all k := ∀ g, k g
  ok s k h := by
    split at h
    · exact ⟨_, h⟩
    · exact h.elim
  allok k h x := h x
/-- An own row, and where its slice is kept; a row that is not there yet is a new one. -/
def Port.row (E : Type) (id es : Nat) (e : TypeId) (enc : E → List SV) (dec : List SV → E) (at_ : List Loc) : Port where
  T := Nat × (Nat → E)
  rd s k := match s.get (.sg id 0) with | .s (.a n _ f) => k (n, fun j => dec (f j)) | _ => k (0, fun _ => dec [])
  ws s x := match x with
    | (n, g) => match s.get (.mt id) with
      | .m (some m) => (.sg id 0, .s (.a n es fun j => enc (g j))) :: at_.map fun l => (l, itAt l (.sl id m.ver 0 n))
      | _ => (.mt id, .m (some ⟨0, false, true, some e, 1, es, []⟩)) :: (.sg id 0, .s (.a n es fun j => enc (g j))) :: at_.map fun l => (l, itAt l (.sl id 0 0 n))
  all k := ∀ n g, k (n, g)
  ok s k h := by
    split at h
    · exact ⟨_, h⟩
    · exact ⟨_, h⟩
  allok k h x := by obtain ⟨n, g⟩ := x; exact h n g
/-- What is said of a loop: what is read where it begins, what its rounds turn, what they keep, and what gets smaller. -/
structure Ann where
  p0 : Port
  p : Port
  I : p0.T → p.T → Prop
  μ : p0.T → p.T → Nat
/-- The temporaries that a code writes. -/
def opDsts : List Oper → List Nat → List Nat
  | [], l => l
  | o :: r, l => match o.dst with
    | some d => opDsts r (d :: l)
    | none => opDsts r l
def dsts : Code → List Nat → List Nat
  | .seq a b, l => dsts a (dsts b l)
  | .cond _ a b, l => dsts a (dsts b l)
  | .block _ c, l => dsts c l
  | .loop c, l => dsts c l
  | .region _ ops _, l => opDsts ops.toList l
  | _, l => l
def nloops : Code → Nat
  | .seq a b => nloops a + nloops b
  | .cond _ a b => nloops a + nloops b
  | .block _ c => nloops c
  | .loop c => nloops c + 1
  | _ => 0
def clrs (l : List Nat) : List (Loc × Item) := l.map fun t => (.tm t, .v .any)
def wrW (s : LSt) (ws : List (Loc × Item)) (k : LSt → Prop) : Prop := contW s ws fun s => s.force k
def LSt.wr (s : LSt) (ws : List (Loc × Item)) : LSt := (s.apply ws).getD s
theorem contW_ap : ∀ {ws : List (Loc × Item)} {s : LSt} {k : LSt → Prop}, contW s ws k → k (s.wr ws)
  | [], _, _, h => h
  | (l, x) :: r, s, k, h => by
    obtain ⟨s1, h1, h2⟩ := LSt.setW_ok h
    have := contW_ap (ws := r) h2
    cases h3 : s1.apply r with
    | none =>
      have : s.wr ((l, x) :: r) = s := by simp [LSt.wr, LSt.apply, h1, h3]
      exfalso
      have hh : ∀ {ws : List (Loc × Item)} {s : LSt} {k : LSt → Prop}, contW s ws k → s.apply ws ≠ none := by
        intro ws
        induction ws with
        | nil => intro s k _ hc; simp [LSt.apply] at hc
        | cons y r ih =>
          intro s k h
          obtain ⟨l, x⟩ := y
          obtain ⟨s1, h1, h2⟩ := LSt.setW_ok h
          simp only [LSt.apply, h1]
          exact ih h2
      exact hh h2 h3
    | some s2 =>
      have e : s.wr ((l, x) :: r) = s1.wr r := by simp [LSt.wr, LSt.apply, h1, h3]
      rw [e]; exact this
theorem wrW_ok {ws : List (Loc × Item)} {s : LSt} {k : LSt → Prop} (h : wrW s ws k) : k (s.wr ws) := by
  have := contW_ap h
  rwa [LSt.force_eq] at this
def execA (X : Ctx) : Code → List Ann → LSt → (LSt → Prop) → (Nat → LSt → Prop) → (LSt → Prop) → Prop
  | .skip, _, s, kn, _, _ => kn s
  | .label _, _, s, kn, _, _ => kn s
  | .seq a b, A, s, kn, kx, kr => execA X a A s (fun s => execA X b (A.drop (nloops a)) s kn kx kr) kx kr
  | .cond c a b, A, s, kn, kx, kr => condW c s (fun s => execA X a A s kn kx kr) (fun s => execA X b (A.drop (nloops a)) s kn kx kr)
  | .block id c, A, s, kn, kx, kr => execA X c A s kn (fun i s => match Nat.beq i id with | true => kn s | false => kx i s) kr
  | .exit id, _, s, _, kx, _ => kx id s
  | .ret, _, s, _, _, kr => kr s
  | .region _ ops draw, _, s, kn, _, _ => match regOK X.N ops with
    | true => runOps X ops ops.toList 0 s [] fun s tr => drawOK draw ops tr ∧ kn s
    | false => False
  | .loop c, A, s, _, kx, kr => match A with
    | [] => False
    | ⟨p0, p, I, μ⟩ :: A => p0.rd s fun x0 => wrW s (clrs (dsts c [])) fun s1 =>
      (p.rd s fun x => I x0 x ∧ wrW s1 (p.ws s1 x) fun s2 => leSt s s2) ∧
      p.all fun x => I x0 x → wrW s1 (p.ws s1 x) fun s2 => execA X c A s2 (fun s' => p.rd s' fun x' => I x0 x' ∧ μ x0 x' < μ x0 x ∧ wrW s1 (p.ws s1 x') fun s3 => leSt s' s3) kx kr
  | _, _, _, _, _, _ => False
theorem execA_sound {E : Env} (hK : ∀ o r, E.K o r) {X : Ctx} (hN : E.N = X.N) (hC : ∀ f c, X.C f = some c → FnOK X.P f c) (hm : X.P.follows .mixedOrders = true) : ∀ (c : Code) (A : List Ann) (s : LSt) (kn : LSt → Prop) (kx : Nat → LSt → Prop) (kr : LSt → Prop), execA X c A s kn kx kr →
    ∀ Q : Exit → Act → World → Prop, (∀ s : LSt, kn s → ∀ a w, Sim E s.get w a → Q .normal a w) → (∀ (i : Nat) (s : LSt), kx i s → ∀ a w, Sim E s.get w a → Q (.exit i) a w) → (∀ s : LSt, kr s → ∀ a w, Sim E s.get w a → Q .ret a w) →
    ∀ a w, Sim E s.get w a → c.wp X.P Q a w := by
  intro c
  induction c with
  | skip => intro A s kn kx kr h Q hn hx hr a w hs; exact wp_skip (hn s h a w hs)
  | label l => intro A s kn kx kr h Q hn hx hr a w hs; exact wp_label (hn s h a w hs)
  | seq x y ihx ihy =>
    intro A s kn kx kr h Q hn hx hr a w hs
    exact wp_seq (ihx A s _ _ _ h (Exit.then (y.wp X.P Q) Q) (fun s1 h1 a w hs => ihy _ s1 _ _ _ h1 Q hn hx hr a w hs) hx hr a w hs)
  | cond c x y ihx ihy =>
    intro A s kn kx kr h Q hn hx hr a w hs
    exact condW_ok h hs (fun s1 h1 hs1 => ihx _ s1 _ _ _ h1 Q hn hx hr a w hs1) (fun s1 h1 hs1 => ihy _ s1 _ _ _ h1 Q hn hx hr a w hs1)
  | block id x ih =>
    intro A s kn kx kr h Q hn hx hr a w hs
    refine wp_block (ih A s _ _ _ h (Exit.inBlock id Q) hn (fun i s1 h1 a w hs => ?_) hr a w hs)
    simp only [Exit.inBlock]
    split at h1
    · rename_i he
      rw [if_pos (Nat.eq_of_beq_eq_true he)]; exact hn s1 h1 a w hs
    · rename_i he
      rw [if_neg (Nat.ne_of_beq_eq_false he)]; exact hx i s1 h1 a w hs
  | exit id => intro A s kn kx kr h Q hn hx hr a w hs; exact wp_exit (hx id s h a w hs)
  | ret => intro A s kn kx kr h Q hn hx hr a w hs; exact wp_ret (hr s h a w hs)
  | loop c ih =>
    intro A s kn kx kr h Q hn hx hr a w hs
    cases A with
    | nil => exact h.elim
    | cons A0 A =>
    obtain ⟨p0, p, I, μ⟩ := A0
    simp only [execA] at h
    obtain ⟨x0, h⟩ := p0.ok _ _ h
    have h := wrW_ok h
    obtain ⟨h1, h2⟩ := h
    generalize s.wr (clrs (dsts c [])) = s1 at h1 h2
    obtain ⟨x1, hI, h1⟩ := p.ok _ _ h1
    have h1 := wrW_ok h1
    have h2 := p.allok _ h2
    refine wp_loop_ghost (fun n a w => ∃ x, I x0 x ∧ μ x0 x = n ∧ Sim E (s1.wr (p.ws s1 x)).get w a) (μ x0 x1) ⟨x1, hI, rfl, sim_le hK h1 hs⟩ ?_
    rintro n a w ⟨x, hI, rfl, hs⟩
    refine ih A _ _ _ _ (wrW_ok (h2 x hI)) (Exit.then _ Q) (fun s2 h3 a w hs => ?_) hx hr a w hs
    obtain ⟨x', hI', hlt, h3⟩ := p.ok _ _ h3
    exact ⟨μ x0 x', hlt, x', hI', rfl, sim_le hK (wrW_ok h3) hs⟩
  | region id ops draw =>
    intro A s kn kx kr h
    exact exec_sound hN hC hm (.region id ops draw) (.inr hK) s kn kx kr h
  | _ => intro A s kn kx kr h; exact h.elim
/-- What must hold of a call with these arguments, its loops being said. -/
def callVA (P : Program) (C : Nat → Option Ctr) (fn : Func) (code : Code) (A : List Ann) (args : List SV) (r : SV) : Prop :=
  (startSt fn.ntmps args).force fun s => execA ⟨P, fn.ntmps, C⟩ code A s (endOK P fn r) (fun _ _ => False) (endOK P fn r)
theorem fn_tabA {P : Program} {T : List (Nat × Ctr)} (hT : TabOK P T) {f : Nat} {fn : Func} (hm : P.follows .mixedOrders = true) (hf : P.funcs[f]? = some fn) (hb : fn.body = some (codeOf fn)) (hname : (fn.name == "runtime.NumGoroutine") = false)
    {α : Type} {n : Nat} {dec : List SV → Option (Prop × α)} {enc : α → List SV} {pre : α → Prop} {res : α → SV} (hd : DecOK n dec enc) (hn : Nat.ble n fn.ntmps = true) (A : α → List Ann) (H : ∀ a, pre a → callVA P (tab T) fn (codeOf fn) (A a) (enc a) (res a)) : TabOK P ((f, ctr dec pre res) :: T) := by
  refine ⟨⟨⟨fn, hf, by simp [hb], hname⟩, fun args p r hc hp R w vals hR hrel => ?_⟩, hT⟩
  unfold ctr at hc
  rw [forceL_eq] at hc
  split at hc
  case h_2 => cases hc
  rename_i q a ha
  simp only [Option.some.injEq, Prod.mk.injEq] at hc
  obtain ⟨rfl, rfl⟩ := hc
  obtain ⟨h1, h2⟩ := hd _ _ _ ha hp.1
  have hvc := H _ hp.2
  unfold callVA at hvc
  rw [LSt.force_eq] at hvc
  exact call_of hf hb (by rw [← (leBL_at h1).1, h2]; exact Nat.le_of_ble_eq_true hn) (fun E hE hK Q hn hx hr a w hs => execA_sound (E := E) hK (X := ⟨P, fn.ntmps, tab T⟩) hE (tab_ok hT) hm _ _ _ _ _ _ hvc Q hn hx hr a w hs) R w vals hR (leBL_relL (Kp.none _ _) h1 hrel)
end Go.Sx
