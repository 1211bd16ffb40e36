/-
  A function's code, carried out on symbolic states; what it gives back; and so: its contract.
-/
import Derived.Test.YteemgogalahhnaaEngS
import Derived.Laws.Sem
import Derived.Deep.LoopGhost
namespace Go.Sx
set_option linter.unusedVariables false
set_option linter.unusedSimpArgs false
open Go Go.RowKit

section
variable {E : Env} {P : Program} {ro : RO} {own : Own} {s : St} {w : World} {a : Act} {N : Nat}
theorem load_val_of {v0 : Value} {d : Option Tmp} {T : TypeId} {A : Addr} {v : Value} {y : SV} (hx : v0 = .pointer (some A)) (hrun : (loadVar T A).run P w = .ok v w) (hr : Rel ro own y v)
    {ws} (hk : (setT N d y).ok s ws) : ∃ A v y, v0 = .pointer (some A) ∧ (loadVar T A).run P w = .ok v w ∧ Rel ro own y v ∧ (setT N d y).ok s ws := ⟨A, v, y, hx, hrun, hr, hk⟩
theorem load_val (h : SimG E ro own s w a) {x' : SV} {v0 : Value} {d : Option Tmp} {T : TypeId} (hx : Rel ro own x' v0) {ws} (hk : (txLoad P N d T x').ok s ws) : ∃ A v y, v0 = .pointer (some A) ∧ (loadVar T A).run P w = .ok v w ∧ Rel ro own y v ∧ (setT N d y).ok s ws := by
  unfold txLoad at hk
  split at hk
  case h_2 => exact hk.elim
  rename_i agg n hT hn
  split at hk
  · -- the beginning of a segment
    rename_i id q
    obtain ⟨b, hb, hv⟩ := inv_ptr hx
    obtain ⟨m, hm, hk⟩ := rdM_ok hk
    have he := h.ent id m hm
    split at hk
    · exact hk.elim
    rename_i hrow
    have hrow : m.row = false := by simpa using hrow
    obtain ⟨hver, hsh⟩ := he.plain hrow
    have hb' : own.env id m.ver = some (some b) := by rw [hver]; exact hb
    cases agg with
    | true =>
      simp only [if_true] at hk
      split at hk
      case isFalse => exact hk.elim
      rename_i hq
      have hk := rdSegs_ok hk
      rw [St.segs_drop] at hk
      split at hk
      case h_2 => exact hk.elim
      rename_i l' hl'
      obtain ⟨e1, e2, e3⟩ := takeSegs_spec hl'
      have hst := he.st q hq
      have hcell : ∀ k, k < n → ∃ v, w.cell? ⟨b, own.st id q + k, none⟩ = some v ∧ ∀ sv, flat l' k = some sv → Rel ro own sv v := by
        intro k hkn
        obtain ⟨v, hv, hr⟩ := h.cell' hm hb' (k := own.st id q + k) (by have := segsSize_drop (s.segs id m.ns) q; omega)
        exact ⟨v, hv, fun sv hs => hr sv (by rw [hst, flat_drop, ← e3 k hkn]; exact hs)⟩
      refine load_val_of hv (run_loadVar_agg hT hn (vs := fun k => (w.cell? ⟨b, own.st id q + k, none⟩).getD undef) fun k hkn => ?_) (y := .agg l') ?_ hk
      · obtain ⟨v, hv, _⟩ := hcell k hkn
        rw [hv]; rfl
      · refine .agg _ _ _ (by simp [e1]) fun k sv hs => ?_
        have hkn : k < n := by rw [← e1]; exact flat_lt hs
        obtain ⟨v, hv, hr⟩ := hcell k hkn
        rw [getD_ofFn n (fun k => (w.cell? ⟨b, own.st id q + k, none⟩).getD undef) k hkn]
        simp only [hv]
        exact hr sv hs
    | false =>
      simp only [Bool.false_eq_true, if_false] at hk
      obtain ⟨y, hy, hk⟩ := rdS_ok hk
      split at hk
      case h_2 => exact hk.elim
      rename_i u
      split at hk
      case isFalse => exact hk.elim
      rename_i hq
      have hseg : (s.segs id m.ns)[q]? = some (.s u) := by rw [St.segs_getElem _ _ _ _ hq, hy]
      have hf := flat_at hseg 0 (by simp [Seg.size])
      rw [← he.st q hq] at hf
      obtain ⟨v, hc, hr⟩ := h.cell hm hb' hf
      exact load_val_of hv (run_loadVar_one hT hc) hr hk
  · -- an element of an own row
    rename_i id ver q i j
    obtain ⟨b, hb, hv⟩ := inv_pel hx
    obtain ⟨m, hm, hk⟩ := rdM_ok hk
    have he := h.ent id m hm
    split at hk
    case isFalse => exact hk.elim
    rename_i hvq
    obtain ⟨hver, hq⟩ := hvq
    rw [← hver] at hb
    obtain ⟨y, hy, hk⟩ := rdS_ok hk
    split at hk
    case h_2 => exact hk.elim
    rename_i k es f
    obtain ⟨hi, hk⟩ := hk
    split at hk
    case isFalse => exact hk.elim
    rename_i hlen
    split at hk
    case h_2 => exact hk.elim
    rename_i z hz
    have hseg : (s.segs id m.ns)[q]? = some (.a k es f) := by rw [St.segs_getElem _ _ _ _ hq, hy]
    have hes : own.es id q = es := by rw [he.es q _ hseg]; rfl
    obtain ⟨v, hrun, hr⟩ := load_elem (ro := ro) (own := own) (w := w) hT hn (b := b) (off := own.st id q + i * es) hz (fun k' sv hsv => by
      have hk' : k' < es := by rw [← hlen]; exact (List.getElem?_eq_some_iff.1 hsv).1
      have hin : i * es + k' < (Seg.a k es f).size := by
        simp only [Seg.size]
        have : (i + 1) * es ≤ k * es := Nat.mul_le_mul_right _ hi
        rw [Nat.add_mul] at this; omega
      have hf := flat_at hseg (i * es + k') hin
      rw [seg_a_at hi hk', hsv, ← he.st q hq] at hf
      obtain ⟨v, hv, hr⟩ := h.cell hm hb hf
      exact ⟨v, by rw [Nat.add_assoc]; exact hv, hr⟩)
    rw [hes] at hv
    exact load_val_of hv hrun hr hk
  · -- an element of a row that is only read
    rename_i es len f i j
    obtain ⟨b, k0, vs, hv, hi, hl, hm, hh⟩ := inv_rop hx
    split at hk
    case isFalse => exact hk.elim
    rename_i hlen
    split at hk
    case h_2 => exact hk.elim
    rename_i z hz
    obtain ⟨v, hrun, hr⟩ := load_elem (ro := ro) (own := own) (w := w) hT hn (b := b) (off := k0 + i * es) hz (fun k' sv hsv => by
      have hk' : k' < es := by rw [← hlen]; exact (List.getElem?_eq_some_iff.1 hsv).1
      have hin : i * es + k' < len * es := by
        have : (i + 1) * es ≤ len * es := Nat.mul_le_mul_right _ hi
        rw [Nat.add_mul] at this; omega
      exact ⟨vs (i * es + k'), by rw [Nat.add_assoc]; exact h.rook _ _ _ (hm _ hin), (hh i k' sv hi hsv).own (Own.empty_le _)⟩)
    exact load_val_of hv hrun hr hk
  · exact hk.elim


end
def Tx.bind : Tx → (List (Loc × Item) → Tx) → Tx
  | .done ws, f => f ws
  | .rd l k, f => .rd l fun x => (k x).bind f
  | .req p k, f => .req p (k.bind f)
  | .fail, _ => .fail
theorem Tx.bind_ok {s : St} {f : List (Loc × Item) → Tx} {ws} : ∀ {t : Tx}, (t.bind f).ok s ws → ∃ ws0, t.ok s ws0 ∧ (f ws0).ok s ws
  | .done ws0, h => ⟨ws0, rfl, h⟩
  | .rd l k, h => Tx.bind_ok (t := k (s l)) h
  | .req p k, h => let ⟨ws0, h1, h2⟩ := Tx.bind_ok (t := k) h.2; ⟨ws0, ⟨h.1, h1⟩, h2⟩
  | .fail, h => h.elim
def resOne (P : Program) (r : ResultVar) (k : SV → Tx) : Tx := match r with
  | .tmp t => rdT t k
  | .cell t T => (rdT t fun x => txLoad P 1 (some 0) T x).bind fun
    | [(_, .v y)] => k y
    | _ => .fail
def resAll (P : Program) : List ResultVar → (List SV → Tx) → Tx
  | [], k => k []
  | r :: rs, k => resOne P r fun x => resAll P rs fun xs => k (x :: xs)
def oneOf : List SV → SV
  | [x] => x
  | l => .tup l
def nokp : KF := fun _ => none
def nonl : NF := fun _ => none
def resTx (P : Program) (fn : Func) (r : SV) : Tx := resAll P fn.results.toList fun xs => resolveL xs fun xs' ws => forceL xs' fun xs' => .req (leC nokp nonl (oneOf xs') r) (.done ws)
def oneRes (tmps : Array Value) : ResultVar → Sem Value
  | .tmp t => pure (tmps.getD t undef)
  | .cell a t => do loadVar t (← asAddr (tmps.getD a undef))
def Runs {α : Type} (P : Program) (w : World) (g : α → Sem Value) : List α → List Value → Prop
  | [], [] => True
  | x :: l, v :: vs => (g x).run P w = .ok v w ∧ Runs P w g l vs
  | _, _ => False
theorem mapM_run {P : Program} {w : World} {α : Type} {g : α → Sem Value} : ∀ {l : List α} {vs : List Value}, Runs P w g l vs → (l.mapM g).run P w = .ok vs w
  | [], [], _ => by simp [Sem.run_pure]
  | x :: l, v :: vs, h => by
    simp [List.mapM_cons, Sem.run_bind, h.1, mapM_run h.2]
  | [], _ :: _, h => h.elim
  | _ :: _, [], h => h.elim
def oneV : List Value → Value
  | [v] => v
  | l => .tuple l.toArray
theorem results_run {P : Program} {w : World} {fn : Func} {tmps : Array Value} {vs : List Value} (h : Runs P w (oneRes tmps) fn.results.toList vs) :
    (results fn tmps).run P w = .ok (oneV vs) w := by
  have e : results fn tmps = (do let vs ← fn.results.mapM (oneRes tmps); pure (if h : vs.size = 1 then vs[0] else .tuple vs)) := by
    unfold results
    congr 1
  rw [e, Array.mapM_eq_mapM_toList]
  simp [Sem.run_bind, mapM_run h]
  match vs with
  | [] => rfl
  | [v] => rfl
  | v :: u :: r => simp [oneV]
section
variable {E : Env} {P : Program} {ro : RO} {own : Own} {s : St} {w : World} {a : Act}
theorem rdT_ok' (h : SimG E ro own s w a) {t : Nat} {k : SV → Tx} {ws} (hk : (rdT t k).ok s ws) : ∃ x, Rel ro own x (a.tmps.getD t undef) ∧ (k x).ok s ws := by
  have := rdO_ok (o := .tmp t) h hk
  exact this
theorem resOne_ok (h : SimG E ro own s w a) {r : ResultVar} {k : SV → Tx} {ws} (hk : (resOne P r k).ok s ws) : ∃ x v, (oneRes a.tmps r).run P w = .ok v w ∧ Rel ro own x v ∧ (k x).ok s ws := by
  cases r with
  | tmp t =>
    obtain ⟨x, h1, h2⟩ := rdT_ok' h hk
    exact ⟨x, _, by simp [oneRes, Sem.run_pure], h1, h2⟩
  | cell t T =>
    obtain ⟨ws0, h1, h2⟩ := Tx.bind_ok hk
    obtain ⟨x, h3, h4⟩ := rdT_ok' h h1
    obtain ⟨A, v, y, e1, e2, e3, e4⟩ := load_val h h3 h4
    have : ws0 = [(.tm 0, .v y)] := by simpa [setT, Tx.ok, eq_comm] using e4
    subst this
    exact ⟨y, v, by simp [oneRes, e1, asAddr, Sem.run_bind, Sem.run_pure, e2], e3, h2⟩
theorem resAll_ok (h : SimG E ro own s w a) : ∀ {l : List ResultVar} {k : List SV → Tx} {ws}, (resAll P l k).ok s ws → ∃ xs vs, Runs P w (oneRes a.tmps) l vs ∧ RelL ro own xs vs ∧ (k xs).ok s ws
  | [], k, ws, hk => ⟨[], [], trivial, trivial, hk⟩
  | r :: l, k, ws, hk => by
    obtain ⟨x, v, h1, h2, hk⟩ := resOne_ok h hk
    obtain ⟨xs, vs, h3, h4, hk⟩ := resAll_ok h hk
    exact ⟨x :: xs, v :: vs, ⟨h1, h3⟩, ⟨h2, h4⟩, hk⟩
theorem RelL.one {xs : List SV} {vs : List Value} (h : RelL ro own xs vs) : Rel ro own (oneOf xs) (oneV vs) := by
  have tup : Rel ro own (.tup xs) (.tuple vs.toArray) := by
    refine .tup _ _ _ (by simp [h.length]) fun i x hx => ?_
    obtain ⟨v, hv, hr⟩ := h.at i x hx
    simpa [hv] using hr
  match xs, vs, h with
  | [], [], _ => exact tup
  | [x], [v], h => exact h.1
  | x :: y :: r, v :: u :: q, h => exact tup
/-- What is given back. -/
theorem resTx_ok (h : SimG E ro own s w a) {fn : Func} {r : SV} {ws} (hk : (resTx P fn r).ok s ws) :
    ∃ v ro', (results fn a.tmps).run P w = .ok v w ∧ Rel ro' Own.empty r v ∧ ROle ro ro' ∧ (∀ b o v, ro' b o = some v → w.cell? ⟨b, o, none⟩ = some v) ∧ ∀ b o, b < E.B → ro' b o = E.R b o := by
  obtain ⟨xs, vs, h1, h2, hk⟩ := resAll_ok h hk
  obtain ⟨xs', ws', ro2, hk2, hle, hs, hr⟩ := resolveL_ok (s := s) ⟨fun _ _ => rfl, fun _ => .inl rfl⟩ h h2 hk
  rw [forceL_eq] at hk2
  exact ⟨_, ro2, results_run h1, leC_rel (Kp.none _ _) hk2.1 hr.one, hle, hs.rook, hs.rold⟩
end

/-! ### Code -/
def regOK (N : Nat) (ops : Array Oper) : Bool := ops.toList.all fun o => (match o.dst with | some d => Nat.blt d N | none => true) && (match o.guard with
  | some (j, _) => (match guardSlot ops j with | some t => Nat.blt t N | none => true)
  | none => true)
def condW (c : Operand) (s : LSt) (ka kb : LSt → Prop) : Prop := match c with
  | .tmp t => (match s.get (.tm t) with
    | .v .tt => ka s
    | .v .ff => kb s
    | .v (.bool b) => (b = true → s.setW (.tm t) (.v .tt) ka) ∧ (b = false → s.setW (.tm t) (.v .ff) kb)
    | _ => False)
  | .const (.bool true) => ka s
  | .const (.bool false) => kb s
  | _ => False
/-- A Bool that the kernel finds true. -/
structure IsT (b : Bool) : Prop where
  h : b = true
def drawOK (draw : Bool) (ops : Array Oper) (tr : List Tr) : Prop := match draw with
  | true => IsT (anyOK ops tr)
  | false => True
def exec (X : Ctx) : Code → LSt → (LSt → Prop) → (Nat → LSt → Prop) → (LSt → Prop) → Prop
  | .skip, s, kn, _, _ => kn s
  | .label _, s, kn, _, _ => kn s
  | .seq a b, s, kn, kx, kr => exec X a s (fun s => exec X b s kn kx kr) kx kr
  | .cond c a b, s, kn, kx, kr => condW c s (fun s => exec X a s kn kx kr) (fun s => exec X b s kn kx kr)
  | .block id c, s, kn, kx, kr => exec X c s kn (fun i s => match Nat.beq i id with | true => kn s | false => kx i s) kr
  | .exit id, s, _, kx, _ => kx id s
  | .ret, s, _, _, kr => kr s
  | .region _ ops draw, s, kn, _, _ => match regOK X.N ops with
    | true => runOps X ops ops.toList 0 s [] fun s tr => drawOK draw ops tr ∧ kn s
    | false => False
  | .loop c, s, _, kx, kr => ∃ (T : Type) (S : T → LSt) (I : T → Prop) (μ : T → Nat), (∃ x, I x ∧ leSt s (S x)) ∧ ∀ x, I x → exec X c (S x) (fun s' => ∃ x', I x' ∧ μ x' < μ x ∧ leSt s' (S x')) kx kr
  | _, _, _, _, _ => False
theorem condW_ok {E : Env} {P : Program} {c : Operand} {s : LSt} {ka kb : LSt → Prop} (h : condW c s ka kb) {x y : Code} {Q : Exit → Act → World → Prop} {w : World} {a : Act} (hs : Sim E s.get w a)
    (ha : ∀ s1 : LSt, ka s1 → Sim E s1.get w a → x.wp P Q a w) (hb : ∀ s1 : LSt, kb s1 → Sim E s1.get w a → y.wp P Q a w) : (Code.cond c x y).wp P Q a w := by
  unfold condW at h
  split at h
  · rename_i t
    split at h
    · rename_i ht
      obtain ⟨ro, own, hg⟩ := hs
      exact wp_cond_true (inv_tt (hg.tm t _ ht)) (ha s h ⟨ro, own, hg⟩)
    · rename_i ht
      obtain ⟨ro, own, hg⟩ := hs
      exact wp_cond_false (inv_ff (hg.tm t _ ht)) (hb s h ⟨ro, own, hg⟩)
    · rename_i b ht
      have self : St.put s.get (.tm t) (.v (.bool b)) = s.get := by
        funext l
        by_cases e : l = .tm t
        · subst e; rw [St.put_self, ht]
        · rw [St.put_ne _ _ e]
      have hs' : Sim E (St.put s.get (.tm t) (.v (.bool b))) w a := by rw [self]; exact hs
      obtain ⟨ro, own, hg⟩ := hs
      refine wp_cond_split (inv_bool (hg.tm t _ ht)) (fun e => ?_) (fun e => ?_)
      · obtain ⟨s1, h1, this⟩ := LSt.setW_ok (h.1 e)
        exact ha s1 this (by rw [LSt.set_get h1]; exact Sim.retm hs' fun _ _ _ hr => tt_of e hr)
      · obtain ⟨s2, h2, this⟩ := LSt.setW_ok (h.2 e)
        exact hb s2 this (by rw [LSt.set_get h2]; exact Sim.retm hs' fun _ _ _ hr => ff_of e hr)
    · exact h.elim
  · exact wp_cond_true rfl (ha s h hs)
  · exact wp_cond_false rfl (hb s h hs)
  · exact h.elim
def noLoop : Code → Bool
  | .seq a b => noLoop a && noLoop b
  | .cond _ a b => noLoop a && noLoop b
  | .block _ c => noLoop c
  | .loop _ => false
  | _ => true
theorem noLoop_or {p : Prop} {a b : Bool} (h : (a && b) = true ∨ p) : (a = true ∨ p) ∧ (b = true ∨ p) := by
  rcases h with h | h
  · rw [Bool.and_eq_true] at h; exact ⟨.inl h.1, .inl h.2⟩
  · exact ⟨.inr h, .inr h⟩
theorem exec_sound {E : Env} {X : Ctx} (hN : E.N = X.N) (hC : ∀ f c, X.C f = some c → FnOK X.P f c) (hm : X.P.follows .mixedOrders = true) : ∀ (c : Code) (hK : noLoop c = true ∨ ∀ o r, E.K o r) (s : LSt) (kn : LSt → Prop) (kx : Nat → LSt → Prop) (kr : LSt → Prop), exec X c s kn kx kr →
    ∀ Q : Exit → Act → World → Prop, (∀ s : LSt, kn s → ∀ a w, Sim E s.get w a → Q .normal a w) → (∀ (i : Nat) (s : LSt), kx i s → ∀ a w, Sim E s.get w a → Q (.exit i) a w) → (∀ s : LSt, kr s → ∀ a w, Sim E s.get w a → Q .ret a w) →
    ∀ a w, Sim E s.get w a → c.wp X.P Q a w := by
  intro c
  induction c with
  | skip => intro hK s kn kx kr h Q hn hx hr a w hs; exact wp_skip (hn s h a w hs)
  | label l => intro hK s kn kx kr h Q hn hx hr a w hs; exact wp_label (hn s h a w hs)
  | seq x y ihx ihy =>
    intro hK s kn kx kr h Q hn hx hr a w hs
    obtain ⟨hK1, hK2⟩ := noLoop_or hK
    exact wp_seq (ihx hK1 s _ _ _ h (Exit.then (y.wp X.P Q) Q) (fun s1 h1 a w hs => ihy hK2 s1 _ _ _ h1 Q hn hx hr a w hs) hx hr a w hs)
  | cond c x y ihx ihy =>
    intro hK s kn kx kr h Q hn hx hr a w hs
    obtain ⟨hK1, hK2⟩ := noLoop_or hK
    exact condW_ok h hs (fun s1 h1 hs1 => ihx hK1 s1 _ _ _ h1 Q hn hx hr a w hs1) (fun s1 h1 hs1 => ihy hK2 s1 _ _ _ h1 Q hn hx hr a w hs1)
  | block id x ih =>
    intro hK s kn kx kr h Q hn hx hr a w hs
    refine wp_block (ih hK s _ _ _ h (Exit.inBlock id Q) hn (fun i s1 h1 a w hs => ?_) hr a w hs)
    simp only [Exit.inBlock]
    split at h1
    · rename_i he
      rw [if_pos (Nat.eq_of_beq_eq_true he)]; exact hn s1 h1 a w hs
    · rename_i he
      rw [if_neg (Nat.ne_of_beq_eq_false he)]; exact hx i s1 h1 a w hs
  | exit id => intro hK s kn kx kr h Q hn hx hr a w hs; exact wp_exit (hx id s h a w hs)
  | ret => intro hK s kn kx kr h Q hn hx hr a w hs; exact wp_ret (hr s h a w hs)
  | loop c ih =>
    intro hK s kn kx kr h Q hn hx hr a w hs
    have hK : ∀ o r, E.K o r := hK.resolve_left (by simp [noLoop])
    obtain ⟨T, S, I, μ, ⟨x0, hI0, hle0⟩, hround⟩ := h
    refine wp_loop_ghost (fun n a w => ∃ x, I x ∧ μ x = n ∧ Sim E (S x).get w a) (μ x0) ⟨x0, hI0, rfl, sim_le hK hle0 hs⟩ ?_
    rintro n a w ⟨x, hI, rfl, hs⟩
    refine ih (.inr hK) (S x) _ _ _ (hround x hI) (Exit.then _ Q) (fun s1 h1 a w hs => ?_) hx hr a w hs
    obtain ⟨x', hI', hlt, hle⟩ := h1
    exact ⟨μ x', hlt, x', hI', rfl, sim_le hK hle hs⟩
  | region id ops draw =>
    intro hK s kn kx kr h Q hn hx hr a w hs
    unfold exec at h
    split at h
    case h_2 => exact h.elim
    rename_i hok
    simp only [regOK, List.all_eq_true, Bool.and_eq_true] at hok
    obtain ⟨st, s1, h1, h2, h3, h4⟩ := runOps_trace hN hC h (fun j _ => by simp) (fun o ho t => by
      have := (hok o ho).2
      split
      · rename_i j b hg
        intro ht
        simp only [hg, ht] at this
        rw [hN]
        simpa [Nat.blt_eq] using this
      · trivial) (fun o ho d hd => by
      have := (hok o ho).1
      rw [hd] at this
      rw [hN]; simpa [Nat.blt_eq] using this)
    simp only [Nat.zero_add] at h4
    have fin : kn s1 → ∀ a w, Sim E (St.apply s.get (st.flatMap (·.ws))) w a → Q .normal a w := fun hk a w hs => hn s1 hk a w (by rw [h2]; exact hs)
    obtain ⟨hd, h3⟩ := h3
    cases draw with
    | false =>
      refine wp_region ?_
      have := steps_seq (P := X.P) (Q := Q) (ops := ops) st 0 s.get (fun m x hx => by simpa using h4 m x hx) (fin h3) a w hs
      rw [h1, Array.length_toList, ← List.range_eq_range'] at this
      exact this
    | true =>
      have hd := hd.h
      simp only [List.nil_append] at hd
      refine wp_region_any hm (steps_any (st := st) (s := s.get) (by rw [h1]; simp) h4 hd (fin h3) _ _ (by simp) (by simp [unl_replicate]) (fun j o ho hj => ?_) a _ ?_)
      · simp [Array.getElem?_replicate] at hj
        split at hj <;> cases hj
      · have : stD st 0 (fun m => (Array.replicate ops.size false).getD m false) s.get = s.get := by
          rw [← stD_none st 0 s.get]
          congr 1
          · funext m; simp [Array.getElem?_replicate]; split <;> rfl
          · exact stD_none st 0 s.get
        rw [this]
        obtain ⟨ro, own, hg⟩ := hs
        exact ⟨ro, own, hg.world rfl rfl rfl rfl⟩
  | _ => intro hK s kn kx kr h; exact h.elim

theorem leBL_relL {ro : RO} {own own' : Own} {kp : KF} {nl : NF} (K : Kp own own' kp nl) : ∀ {xs ys : List SV} {vs : List Value}, leBL kp nl xs ys → RelL ro own xs vs → RelL ro own' ys vs
  | [], [], [], _, _ => trivial
  | x :: xs, y :: ys, v :: vs, h, hr => ⟨leB_rel K h.1 hr.1, leBL_relL K h.2 hr.2⟩
  | [], _ :: _, _, h, _ => h.elim
  | _ :: _, [], _, h, _ => h.elim
/-! ### Functions -/
/-- The state in which a call begins. -/
def startSt (N : Nat) (args : List SV) : LSt := ⟨args ++ List.replicate (N - args.length) (.tup []), []⟩
def endOK (P : Program) (fn : Func) (r : SV) (s : LSt) : Prop := (resTx P fn r).run s [] fun _ _ => True
/-- What must hold of a call with these arguments. -/
def callVC (P : Program) (C : Nat → Option Ctr) (fn : Func) (code : Code) (args : List SV) (r : SV) : Prop :=
  (startSt fn.ntmps args).force fun s => exec ⟨P, fn.ntmps, C⟩ code s (endOK P fn r) (fun _ _ => False) (endOK P fn r)
/-- From this state on, the code ends in one of these ways. -/
def Carries (P : Program) (N : Nat) (code : Code) (s : LSt) (kn : LSt → Prop) (kx : Nat → LSt → Prop) (kr : LSt → Prop) : Prop := ∀ E : Env, E.N = N → (∀ o r, E.K o r) → ∀ Q : Exit → Act → World → Prop, (∀ s : LSt, kn s → ∀ a w, Sim E s.get w a → Q .normal a w) → (∀ (i : Nat) (s : LSt), kx i s → ∀ a w, Sim E s.get w a → Q (.exit i) a w) → (∀ s : LSt, kr s → ∀ a w, Sim E s.get w a → Q .ret a w) →
    ∀ a w, Sim E s.get w a → code.wp P Q a w
theorem call_of {P : Program} {f : Nat} {fn : Func} {code : Code} (hf : P.funcs[f]? = some fn) (hb : fn.body = some code)
    {args : List SV} {r : SV} (hlen : args.length ≤ fn.ntmps) (hvc : Carries P fn.ntmps code (startSt fn.ntmps args) (endOK P fn r) (fun _ _ => False) (endOK P fn r)) (R : RO) (w : World) (vals : Array Value) (hR : ∀ b o v, R b o = some v → w.cell? ⟨b, o, none⟩ = some v) (hrel : RelL R Own.empty args vals.toList) :
    Calls P f vals w fun e w' => ∃ v R', e = .returned v ∧ Rel R' Own.empty r v ∧ ROle R R' ∧ (∀ b o v, R' b o = some v → w'.cell? ⟨b, o, none⟩ = some v) ∧ (∀ b o, b < w.heap.size → R' b o = R b o) ∧ Below w.heap.size w w' := by
  have hsz : vals.size = args.length := by have := hrel.length; simp at this; omega
  let E : Env := ⟨w.heap.size, w, R, fn.ntmps, fun _ _ => True, fun _ _ _ _ _ _ _ => trivial⟩
  let a0 : Act := { tmps := vals ++ Array.replicate (fn.ntmps - vals.size) undef, defers := [] }
  have hs0 : Sim E (startSt fn.ntmps args).get w a0 := by
    refine ⟨R, Own.empty, { below := Below.refl _ _, base := Nat.le_refl _, defs := rfl, size := ?_, tm := ?_, rook := hR, rold := fun _ _ _ => rfl, ent := ?_, fr := fun _ _ _ => rfl, frv := fun _ _ _ _ _ => rfl, inj := ?_, kk := trivial }⟩
    · simp [a0, E]; omega
    · intro t sv ht
      simp only [LSt.get, startSt, Item.v.injEq] at ht
      by_cases h1 : t < args.length
      · have e1 : (args ++ List.replicate (fn.ntmps - args.length) (SV.tup []))[t]? = args[t]? := List.getElem?_append_left h1
        rw [List.getD_eq_getElem?_getD, e1, List.getElem?_eq_getElem h1] at ht
        simp at ht; subst ht
        obtain ⟨v, hv, hr⟩ := hrel.at t _ (List.getElem?_eq_getElem h1)
        have h2 : t < vals.size := by omega
        have : a0.tmps.getD t undef = v := by
          simp only [Array.getElem?_toList] at hv
          simp [a0, Array.getElem?_append, h2] 
          simpa [Array.getElem?_eq_getElem h2] using hv
        rw [this]; exact hr
      · by_cases h2 : t < fn.ntmps
        · have e1 : (args ++ List.replicate (fn.ntmps - args.length) (SV.tup []))[t]? = some (.tup []) := by
            rw [List.getElem?_append_right (by omega), List.getElem?_replicate, if_pos (by omega)]
          rw [List.getD_eq_getElem?_getD, e1] at ht
          simp at ht; subst ht
          have : a0.tmps.getD t undef = undef := by
            have h3 : ¬ t < vals.size := by omega
            have h4 : t - vals.size < fn.ntmps - vals.size := by omega
            simp [a0, Array.getElem?_append, h3, h4, Array.getElem?_replicate]
          rw [this]; exact .tup _ _ _ rfl (by simp)
        · rw [List.getD_eq_getElem?_getD, List.getElem?_eq_none (by simp; omega)] at ht
          simp at ht; subst ht; exact .any _ _
    · intro id m hm; simp [LSt.get, startSt] at hm
    · intro id id' m m' b hm; simp [LSt.get, startSt] at hm
  have done : ∀ s : LSt, endOK P fn r s → ∀ a w', Sim E s.get w' a → a.defers = [] ∧ ∃ v, (results fn a.tmps).run P w' = .ok v w' ∧ ∃ v' R', Ending.returned v = .returned v' ∧ Rel R' Own.empty r v' ∧ ROle R R' ∧ (∀ b o v, R' b o = some v → w'.cell? ⟨b, o, none⟩ = some v) ∧ (∀ b o, b < w.heap.size → R' b o = R b o) ∧ Below w.heap.size w w' := by
    intro s he a w' hs
    obtain ⟨ro, own, hg⟩ := hs
    obtain ⟨ws, _, hk, _⟩ := Tx.run_ok he
    obtain ⟨v, ro', h1, h2, h3, h4, h5⟩ := resTx_ok hg hk
    refine ⟨hg.defs, v, h1, v, ro', rfl, h2, fun b o u hu => ?_, h4, h5, hg.below⟩
    have hlt : b < w.heap.size := by
      have := hR b o u hu
      unfold World.cell? at this
      rcases Nat.lt_or_ge b w.heap.size with h | h
      · exact h
      · simp [Array.getElem?_eq_none h] at this
    rw [h5 b o hlt]; exact hu
  refine calls_of_wp hf hb ?_
  refine hvc E rfl (fun _ _ => trivial) _ (fun s h a w hs => ?_) (fun _ _ h => h.elim) (fun s h a w hs => ?_) a0 w hs0
  · exact done s h a w hs
  · exact done s h a w hs
theorem call_ok {P : Program} {C : Nat → Option Ctr} {f : Nat} {fn : Func} {code : Code} (hm : P.follows .mixedOrders = true) (hf : P.funcs[f]? = some fn) (hb : fn.body = some code)
    (hC : ∀ f c, C f = some c → FnOK P f c) {args : List SV} {r : SV} (hlen : args.length ≤ fn.ntmps) (hvc : callVC P C fn code args r) (R : RO) (w : World) (vals : Array Value) (hR : ∀ b o v, R b o = some v → w.cell? ⟨b, o, none⟩ = some v) (hrel : RelL R Own.empty args vals.toList) :
    Calls P f vals w fun e w' => ∃ v R', e = .returned v ∧ Rel R' Own.empty r v ∧ ROle R R' ∧ (∀ b o v, R' b o = some v → w'.cell? ⟨b, o, none⟩ = some v) ∧ (∀ b o, b < w.heap.size → R' b o = R b o) ∧ Below w.heap.size w w' := by
  unfold callVC at hvc
  rw [LSt.force_eq] at hvc
  exact call_of hf hb hlen (fun E hE hK Q hn hx hr a w hs => exec_sound (E := E) (X := ⟨P, fn.ntmps, C⟩) hE hC hm code (.inr hK) _ _ _ _ hvc Q hn hx hr a w hs) R w vals hR hrel
theorem fn_ok {P : Program} {C : Nat → Option Ctr} {f : Nat} {fn : Func} {code : Code} {c : Ctr} (hm : P.follows .mixedOrders = true) (hf : P.funcs[f]? = some fn) (hb : fn.body = some code) (hname : (fn.name == "runtime.NumGoroutine") = false)
    (hC : ∀ f c, C f = some c → FnOK P f c) (H : ∀ args p r, c args = some (p, r) → p → ∃ args', leBL nokp nonl args args' ∧ args'.length ≤ fn.ntmps ∧ callVC P C fn code args' r) : FnOK P f c := by
  refine ⟨⟨fn, hf, by simp [hb], hname⟩, fun args p r hc hp R w vals hR hrel => ?_⟩
  obtain ⟨args', hle, hlen, hvc⟩ := H args p r hc hp
  exact call_ok hm hf hb hC hlen hvc R w vals hR (leBL_relL (Kp.none _ _) hle hrel)
end Go.Sx
