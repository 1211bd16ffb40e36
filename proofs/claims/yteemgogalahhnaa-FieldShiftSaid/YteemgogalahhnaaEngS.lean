/-
  Weakening: a state is forgotten down to another one (for loops and for what a function gives back).
-/
import Derived.Test.YteemgogalahhnaaEngR
namespace Go.Sx
set_option linter.unusedVariables false
set_option linter.unusedSimpArgs false
open Go Go.RowKit

/-- Cells of rows that are only read: without rows in them, and with. -/
def leZ0 (x y : SV) : Prop := match x, y with
  | _, .any => True
  | .bool b, .bool b' => b = b'
  | .tt, .bool b => b = true
  | .ff, .bool b => b = false
  | .bool b, .tt => b = true
  | .bool b, .ff => b = false
  | .tt, .tt => True
  | .ff, .ff => True
  | .int k n, .int k' n' => andB (decide (k = k')) (n = n')
  | .str s, .str s' => s = s'
  | .nils, .nils => True
  | x, .opq => andB (closed1 x) True
  | _, _ => False
def leZ0L : List SV → List SV → Prop
  | [], [] => True
  | x :: r, y :: r' => leZ0 x y ∧ leZ0L r r'
  | _, _ => False
def leZ (x y : SV) : Prop := match x, y with
  | .ros es len f, .ros es' len' f' => andB (Nat.beq es es') (len = len' ∧ ∀ i, i < len → leZ0L (f i) (f' i))
  | .nils, .ros _ len _ => len = 0
  | x, y => leZ0 x y
def leZL : List SV → List SV → Prop
  | [], [] => True
  | x :: r, y :: r' => leZ x y ∧ leZL r r'
  | _, _ => False
abbrev KF := Nat → Option (Nat × Nat)
abbrev NF := Nat → Option Nat
def kpIs (o : Option (Nat × Nat)) (v v' : Nat) : Bool := match o with
  | some (a, b) => Nat.beq a v && Nat.beq b v'
  | none => false
def nlIs (o : Option Nat) (v : Nat) : Bool := match o with
  | some a => Nat.beq a v
  | none => false
def leE (kp : KF) (nl : NF) (x y : SV) : Prop := match x, y with
  | .ptr id q, .ptr id' q' => andB (kpIs (kp id) 0 0 && Nat.beq id id' && Nat.beq q q') True
  | .pel id v q i j, .pel id' v' q' i' j' => andB (kpIs (kp id) v v' && Nat.beq id id' && Nat.beq q q' && Nat.beq j j') (i = i')
  | .sl id v off len, .sl id' v' off' len' => andB (kpIs (kp id) v v' && Nat.beq id id') (off = off' ∧ len = len')
  | .nils, .sl id v off len => andB (nlIs (nl id) v) (off = 0 ∧ len = 0)
  | .nils, .ros _ len _ => len = 0
  | .ros es len f, .ros es' len' f' => andB (Nat.beq es es') (len = len' ∧ ∀ i, i < len → leZL (f i) (f' i))
  | .rop es len f i j, .rop es' len' f' i' j' => andB (Nat.beq es es' && Nat.beq j j') (len = len' ∧ i = i' ∧ ∀ i, i < len → leZL (f i) (f' i))
  | x, y => leZ x y
def leEL (kp : KF) (nl : NF) : List SV → List SV → Prop
  | [], [] => True
  | x :: r, y :: r' => leE kp nl x y ∧ leEL kp nl r r'
  | _, _ => False
def leSeg (kp : KF) (nl : NF) (x y : Seg) : Prop := match x, y with
  | .s x, .s y => leE kp nl x y
  | .a n es f, .a n' es' f' => n = n' ∧ es = es' ∧ ∀ i, i < n → leEL kp nl (f i) (f' i)
  | _, _ => False
def leSegs (kp : KF) (nl : NF) : List Seg → List Seg → Prop
  | [], [] => True
  | x :: r, y :: r' => leSeg kp nl x y ∧ leSegs kp nl r r'
  | _, _ => False
def leB (kp : KF) (nl : NF) (x y : SV) : Prop := match x, y with
  | .agg l, .agg l' => leSegs kp nl l l'
  | x, y => leE kp nl x y
def leBL (kp : KF) (nl : NF) : List SV → List SV → Prop
  | [], [] => True
  | x :: r, y :: r' => leB kp nl x y ∧ leBL kp nl r r'
  | _, _ => False
def leC (kp : KF) (nl : NF) (x y : SV) : Prop := match x, y with
  | .tup l, .tup l' => leBL kp nl l l'
  | .fn f a b, .fn f' a' b' => f = f' ∧ leBL kp nl a a' ∧ leBL kp nl b b'
  | x, y => leB kp nl x y

structure Kp (own own' : Own) (kp : KF) (nl : NF) : Prop where
  kept : ∀ id a b, kp id = some (a, b) → ∀ x, own.env id a = some x → own'.env id b = some x ∧ own'.cap id b = own.cap id a ∧ (∀ q, own'.st id q = own.st id q) ∧ ∀ q, own'.es id q = own.es id q
  nil : ∀ id v, nl id = some v → own'.env id v = some none
theorem Kp.none (own own' : Own) : Kp own own' (fun _ => Option.none) (fun _ => Option.none) := ⟨(fun _ _ _ h => by cases h), (fun _ _ h => by cases h)⟩
section
variable {ro : RO} {own own' : Own} {kp : KF} {nl : NF} {v : Value}
theorem kpIs_ok {o : Option (Nat × Nat)} {v v' : Nat} (h : kpIs o v v' = true) : o = some (v, v') := by
  unfold kpIs at h; split at h
  · simp only [Bool.and_eq_true, Nat.beq_eq] at h; rw [h.1, h.2]
  · cases h
theorem nlIs_ok {o : Option Nat} {v : Nat} (h : nlIs o v = true) : o = some v := by
  unfold nlIs at h; split at h
  · simp only [Nat.beq_eq] at h; rw [h]
  · cases h
theorem leZ0_rel {x y : SV} (h : leZ0 x y) (hr : Rel ro own x v) : Rel ro own' y v := by
  unfold leZ0 at h
  split at h
  · exact .any _ _
  · subst h; cases hr; exact .bool _ _
  · subst h; cases hr; exact .bool _ _
  · subst h; cases hr; exact .bool _ _
  · subst h; cases hr; exact .tt _
  · subst h; cases hr; exact .ff _
  · cases hr; exact .tt _
  · cases hr; exact .ff _
  · rw [andB_iff, decide_eq_true_eq] at h
    obtain ⟨rfl, rfl⟩ := h; cases hr; exact .int _ _ _
  · subst h; cases hr; exact .str _ _
  · cases hr; exact .nils _
  · exact .opq _ _ (oneCell_rel hr (closed1_one (andB_iff.1 h).1))
  · exact h.elim
theorem leZ0L_at : ∀ {l l' : List SV}, leZ0L l l' → l.length = l'.length ∧ ∀ (j : Nat) (y : SV), l'[j]? = some y → ∃ x, l[j]? = some x ∧ leZ0 x y
  | [], [], _ => ⟨rfl, by simp⟩
  | x :: r, y :: r', h => by
    have := leZ0L_at h.2
    refine ⟨by simp [this.1], fun j z hz => ?_⟩
    cases j with
    | zero => simp at hz; subst hz; exact ⟨x, rfl, h.1⟩
    | succ j => simp at hz; obtain ⟨u, h1, h2⟩ := this.2 j z hz; exact ⟨u, by simpa using h1, h2⟩
  | [], _ :: _, h => h.elim
  | _ :: _, [], h => h.elim
theorem leZ_rel {x y : SV} (h : leZ x y) (hr : Rel ro own x v) : Rel ro own' y v := by
  unfold leZ at h
  split at h
  · rw [andB_iff, Nat.beq_eq] at h
    obtain ⟨rfl, rfl, hf⟩ := h
    cases hr with
    | ros0 _ _ _ _ a cap h0 => exact .ros0 _ _ _ _ _ _ h0
    | ros _ _ _ _ b k0 cap vs hc hl hm h =>
      exact .ros _ _ _ _ _ _ _ vs hc (fun i hi => by rw [← (leZ0L_at (hf i hi)).1]; exact hl i hi) hm fun i j sv hi e => by
        obtain ⟨x, h1, h2⟩ := (leZ0L_at (hf i hi)).2 j sv e
        exact leZ0_rel h2 (h i j x hi h1)
  · subst h; cases hr; exact .ros0 _ _ _ _ _ _ rfl
  · exact leZ0_rel h hr
theorem leZL_at : ∀ {l l' : List SV}, leZL l l' → l.length = l'.length ∧ ∀ (j : Nat) (y : SV), l'[j]? = some y → ∃ x, l[j]? = some x ∧ leZ x y
  | [], [], _ => ⟨rfl, by simp⟩
  | x :: r, y :: r', h => by
    have := leZL_at h.2
    refine ⟨by simp [this.1], fun j z hz => ?_⟩
    cases j with
    | zero => simp at hz; subst hz; exact ⟨x, rfl, h.1⟩
    | succ j => simp at hz; obtain ⟨u, h1, h2⟩ := this.2 j z hz; exact ⟨u, by simpa using h1, h2⟩
  | [], _ :: _, h => h.elim
  | _ :: _, [], h => h.elim
theorem leE_rel (K : Kp own own' kp nl) {x y : SV} (h : leE kp nl x y) (hr : Rel ro own x v) : Rel ro own' y v := by
  unfold leE at h
  split at h
  · simp only [andB_iff, Bool.and_eq_true, Nat.beq_eq] at h
    obtain ⟨⟨⟨h1, rfl⟩, rfl⟩, _⟩ := h
    have h1 := kpIs_ok h1
    cases hr with
    | ptr _ _ _ b hb =>
      obtain ⟨e1, _, e3, _⟩ := K.kept _ _ _ h1 _ hb
      rw [← e3]; exact .ptr _ _ _ _ e1
  · simp only [andB_iff, Bool.and_eq_true, Nat.beq_eq] at h
    obtain ⟨⟨⟨⟨h1, rfl⟩, rfl⟩, rfl⟩, rfl⟩ := h
    have h1 := kpIs_ok h1
    cases hr with
    | pel _ _ _ _ _ _ b hb =>
      obtain ⟨e1, _, e3, e4⟩ := K.kept _ _ _ h1 _ hb
      rw [← e3, ← e4]; exact .pel _ _ _ _ _ _ _ e1
  · simp only [andB_iff, Bool.and_eq_true, Nat.beq_eq] at h
    obtain ⟨⟨h1, rfl⟩, rfl, rfl⟩ := h
    have h1 := kpIs_ok h1
    cases hr with
    | sl _ _ _ _ _ b hb hc =>
      obtain ⟨e1, e2, _, e4⟩ := K.kept _ _ _ h1 _ hb
      rw [← e2, ← e4]; exact .sl _ _ _ _ _ _ e1 (by rw [e2]; exact hc)
    | sln _ _ _ _ _ hb h3 h4 =>
      obtain ⟨e1, _, _, _⟩ := K.kept _ _ _ h1 _ hb
      exact .sln _ _ _ _ _ e1 h3 h4
  · rw [andB_iff] at h
    obtain ⟨h1, rfl, rfl⟩ := h
    have h1 := nlIs_ok h1
    cases hr; exact .sln _ _ _ _ _ (K.nil _ _ h1) rfl rfl
  · subst h; cases hr; exact .ros0 _ _ _ _ _ _ rfl
  · rw [andB_iff, Nat.beq_eq] at h
    obtain ⟨rfl, rfl, hf⟩ := h
    cases hr with
    | ros0 _ _ _ _ a cap h0 => exact .ros0 _ _ _ _ _ _ h0
    | ros _ _ _ _ b k0 cap vs hc hl hm h =>
      exact .ros _ _ _ _ _ _ _ vs hc (fun i hi => by rw [← (leZL_at (hf i hi)).1]; exact hl i hi) hm fun i j sv hi e => by
        obtain ⟨x, h1, h2⟩ := (leZL_at (hf i hi)).2 j sv e
        exact leZ_rel h2 (h i j x hi h1)
  · simp only [andB_iff, Bool.and_eq_true, Nat.beq_eq] at h
    obtain ⟨⟨rfl, rfl⟩, rfl, rfl, hf⟩ := h
    cases hr with
    | rop _ _ _ _ _ _ b k0 vs hl hm h hi =>
      exact .rop _ _ _ _ _ _ _ _ vs (fun i hi => by rw [← (leZL_at (hf i hi)).1]; exact hl i hi) hm (fun i j sv hi e => by
        obtain ⟨x, h1, h2⟩ := (leZL_at (hf i hi)).2 j sv e
        exact leZ_rel h2 (h i j x hi h1)) hi
  · exact leZ_rel h hr
theorem leEL_at : ∀ {l l' : List SV}, leEL kp nl l l' → l.length = l'.length ∧ ∀ (j : Nat) (y : SV), l'[j]? = some y → ∃ x, l[j]? = some x ∧ leE kp nl x y
  | [], [], _ => ⟨rfl, by simp⟩
  | x :: r, y :: r', h => by
    have := leEL_at h.2
    refine ⟨by simp [this.1], fun j z hz => ?_⟩
    cases j with
    | zero => simp at hz; subst hz; exact ⟨x, rfl, h.1⟩
    | succ j => simp at hz; obtain ⟨u, h1, h2⟩ := this.2 j z hz; exact ⟨u, by simpa using h1, h2⟩
  | [], _ :: _, h => h.elim
  | _ :: _, [], h => h.elim
theorem leSeg_at {x y : Seg} (h : leSeg kp nl x y) : x.size = y.size ∧ x.es = y.es ∧ x.shape = y.shape ∧ ∀ (k : Nat) (b : SV), y.at k = some b → ∃ a, x.at k = some a ∧ leE kp nl a b := by
  unfold leSeg at h
  split at h
  · refine ⟨rfl, rfl, rfl, fun k b hb => ?_⟩
    cases k with
    | zero => simp [Seg.at] at hb; subst hb; exact ⟨_, rfl, h⟩
    | succ k => cases hb
  · obtain ⟨rfl, rfl, hf⟩ := h
    rename_i n es f f'
    refine ⟨rfl, rfl, rfl, fun k b hb => ?_⟩
    simp only [Seg.at] at hb ⊢
    split at hb
    case isFalse => cases hb
    rename_i hk
    rw [if_pos hk]
    have : k / es < n := by
      rcases Nat.eq_zero_or_pos es with h0 | h0
      · subst h0; simp at hk
      · rwa [Nat.div_lt_iff_lt_mul h0]
    exact (leEL_at (hf _ this)).2 _ b hb
  · exact h.elim
theorem leSegs_at : ∀ {l l' : List Seg}, leSegs kp nl l l' → l.length = l'.length ∧ segsSize l = segsSize l' ∧ l.map Seg.shape = l'.map Seg.shape ∧
    (∀ q, segsSize (l.take q) = segsSize (l'.take q)) ∧ (∀ (q : Nat) (y : Seg), l'[q]? = some y → ∃ x, l[q]? = some x ∧ leSeg kp nl x y) ∧ ∀ (k : Nat) (b : SV), flat l' k = some b → ∃ a, flat l k = some a ∧ leE kp nl a b
  | [], [], _ => ⟨rfl, rfl, rfl, fun _ => rfl, by simp, fun k b h => by cases h⟩
  | x :: r, y :: r', h => by
    obtain ⟨h1, h2, h3, h4, h5, h6⟩ := leSegs_at h.2
    obtain ⟨g1, g2, g3, g4⟩ := leSeg_at h.1
    refine ⟨by simp [h1], by simp [segsSize, g1, h2], by simp [g3, h3], fun q => ?_, fun q z hz => ?_, fun k b hb => ?_⟩
    · cases q with
      | zero => rfl
      | succ q => simp only [List.take_succ_cons, segsSize, g1, h4 q]
    · cases q with
      | zero => simp at hz; subst hz; exact ⟨x, rfl, h.1⟩
      | succ q => simp at hz; obtain ⟨u, e1, e2⟩ := h5 q z hz; exact ⟨u, by simpa using e1, e2⟩
    · simp only [flat, g1] at hb ⊢
      by_cases hk : k < y.size
      · rw [if_pos hk] at hb ⊢
        exact g4 k b hb
      · rw [if_neg hk] at hb ⊢
        exact h6 _ b hb
  | [], _ :: _, h => h.elim
  | _ :: _, [], h => h.elim
theorem leB_rel (K : Kp own own' kp nl) {x y : SV} (h : leB kp nl x y) (hr : Rel ro own x v) : Rel ro own' y v := by
  unfold leB at h
  split at h
  · obtain ⟨_, h2, _, _, _, h6⟩ := leSegs_at h
    obtain ⟨cs, rfl, hs, hc⟩ := inv_agg hr
    refine .agg _ _ _ (by rw [hs, h2]) fun k sv hk => ?_
    obtain ⟨a, e1, e2⟩ := h6 k sv hk
    exact leE_rel K e2 (hc k a e1)
  · exact leE_rel K h hr
theorem leBL_at : ∀ {l l' : List SV}, leBL kp nl l l' → l.length = l'.length ∧ ∀ (j : Nat) (y : SV), l'[j]? = some y → ∃ x, l[j]? = some x ∧ leB kp nl x y
  | [], [], _ => ⟨rfl, by simp⟩
  | x :: r, y :: r', h => by
    have := leBL_at h.2
    refine ⟨by simp [this.1], fun j z hz => ?_⟩
    cases j with
    | zero => simp at hz; subst hz; exact ⟨x, rfl, h.1⟩
    | succ j => simp at hz; obtain ⟨u, h1, h2⟩ := this.2 j z hz; exact ⟨u, by simpa using h1, h2⟩
  | [], _ :: _, h => h.elim
  | _ :: _, [], h => h.elim
theorem leC_rel (K : Kp own own' kp nl) {x y : SV} (h : leC kp nl x y) (hr : Rel ro own x v) : Rel ro own' y v := by
  unfold leC at h
  split at h
  · obtain ⟨h1, h2⟩ := leBL_at h
    cases hr with
    | tup _ _ vs hs hv =>
      refine .tup _ _ _ (by rw [hs, h1]) fun k sv hk => ?_
      obtain ⟨a, e1, e2⟩ := h2 k sv hk
      exact leB_rel K e2 (hv k a e1)
  · obtain ⟨rfl, ha, hb⟩ := h
    obtain ⟨a1, a2⟩ := leBL_at ha
    obtain ⟨b1, b2⟩ := leBL_at hb
    cases hr with
    | fn _ _ _ _ va vb h1 h2 h3 h4 =>
      refine .fn _ _ _ _ _ _ (by rw [h1, a1]) (by rw [h2, b1]) (fun k sv hk => ?_) (fun k sv hk => ?_)
      · obtain ⟨a, e1, e2⟩ := a2 k sv hk
        exact leB_rel K e2 (h3 k a e1)
      · obtain ⟨a, e1, e2⟩ := b2 k sv hk
        exact leB_rel K e2 (h4 k a e1)
  · exact leB_rel K h hr
end

/-! ### States -/
def metaEq (m m' : Mta) : Bool :=
  m.row == m'.row && m.frz == m'.frz && (match m.app, m'.app with | some t, some t' => Nat.beq t t' | none, none => true | _, _ => false) && Nat.beq m.ns m'.ns && Nat.beq m.es m'.es && (m.row || (Nat.beq m.ver 0 && Nat.beq m'.ver 0))
def verOf (s : LSt) (id : Nat) : Option Nat := (s.en[id]?).map (·.1.ver)
def kpOf (s s' : LSt) : KF := fun id => match verOf s id, verOf s' id with
  | some a, some b => some (a, b)
  | _, _ => none
def nlOf (s s' : LSt) : NF := fun id => match verOf s id, verOf s' id with
  | none, some b => some b
  | _, _ => none
def leTm (kp : KF) (nl : NF) : List SV → List SV → Prop
  | _, [] => True
  | x :: r, y :: r' => leC kp nl x y ∧ leTm kp nl r r'
  | [], .any :: r' => leTm kp nl [] r'
  | [], _ :: _ => False
def leEn (kp : KF) (nl : NF) : List (Mta × List Seg) → List (Mta × List Seg) → Prop
  | _, [] => True
  | (m, l) :: r, (m', l') :: r' => match metaEq m m' && Nat.beq l.length m.ns && Nat.beq l'.length m'.ns with
    | true => (match m.frz with
      | true => m.sh = m'.sh ∧ leSegs (fun _ => none) (fun _ => none) l l' ∧ leEn kp nl r r'
      | false => m.sh = m'.sh ∧ leSegs kp nl l l' ∧ leEn kp nl r r')
    | false => False
  | [], (m', l') :: r' => match m'.row && !m'.frz && Nat.beq m'.ns 1, l' with
    | true, [.a n es _] => n = 0 ∧ es = m'.es ∧ leEn kp nl [] r'
    | _, _ => False
def leSt (s s' : LSt) : Prop := leTm (kpOf s s') (nlOf s s') s.tm s'.tm ∧ leEn (kpOf s s') (nlOf s s') s.en s'.en
theorem leTm_at {kp : KF} {nl : NF} : ∀ {l l' : List SV}, leTm kp nl l l' → ∀ (t : Nat) (y : SV), l'[t]? = some y → y = .any ∨ ∃ x, l[t]? = some x ∧ leC kp nl x y
  | _, [], _, t, y, h => by simp at h
  | x :: r, y :: r', h, t, z, hz => by
    cases t with
    | zero => simp at hz; subst hz; exact .inr ⟨x, rfl, h.1⟩
    | succ t => simp at hz; simpa using leTm_at h.2 t z hz
  | [], y :: r', h, t, z, hz => by
    cases y <;> first | exact h.elim | skip
    cases t with
    | zero => simp at hz; exact .inl hz.symm
    | succ t =>
      simp at hz
      simp only [leTm] at h
      exact leTm_at (l := []) h t z hz
structure EnKept (kp : KF) (nl : NF) (m m' : Mta) (l l' : List Seg) : Prop where
  row : m.row = m'.row
  frz : m.frz = m'.frz
  app : m.app = m'.app
  ns : m.ns = m'.ns
  es : m.es = m'.es
  sh : m.sh = m'.sh
  zero : m.row = false → m.ver = 0 ∧ m'.ver = 0
  len : l.length = m.ns
  segs : leSegs (if m.frz then fun _ => none else kp) (if m.frz then fun _ => none else nl) l l'
theorem metaEq_spec {m m' : Mta} (h : metaEq m m' = true) : m.row = m'.row ∧ m.frz = m'.frz ∧ m.app = m'.app ∧ m.ns = m'.ns ∧ m.es = m'.es ∧ (m.row = false → m.ver = 0 ∧ m'.ver = 0) := by
  simp only [metaEq, Bool.and_eq_true, beq_iff_eq, Nat.beq_eq, Bool.or_eq_true] at h
  obtain ⟨⟨⟨⟨⟨h1, h2⟩, h3⟩, h4⟩, h5⟩, h6⟩ := h
  refine ⟨h1, h2, ?_, h4, h5, fun hr => h6.resolve_left (by simp [hr])⟩
  split at h3
  · rename_i t t' e1 e2; rw [e1, e2, Nat.eq_of_beq_eq_true h3]
  · rename_i e1 e2; rw [e1, e2]
  · cases h3
theorem leEn_at {kp : KF} {nl : NF} : ∀ {e e' : List (Mta × List Seg)}, leEn kp nl e e' → ∀ (id : Nat) (m' : Mta) (l' : List Seg), e'[id]? = some (m', l') → (∃ m l, e[id]? = some (m, l) ∧ EnKept kp nl m m' l l') ∨
      (e[id]? = none ∧ m'.row = true ∧ m'.ns = 1 ∧ ∃ f, l' = [.a 0 m'.es f])
  | _, [], _, id, m', l', h => by simp at h
  | (m, l) :: r, (m', l') :: r', h, id, m1, l1, h1 => by
    simp only [leEn] at h
    split at h
    case h_2 => exact h.elim
    rename_i hc
    simp only [Bool.and_eq_true, Nat.beq_eq] at hc
    obtain ⟨⟨hc, hl1⟩, hl2⟩ := hc
    obtain ⟨q1, q2, q3, q4, q5, q6⟩ := metaEq_spec hc
    have : (m.sh = m'.sh ∧ leSegs (if m.frz then fun _ => none else kp) (if m.frz then fun _ => none else nl) l l') ∧ leEn kp nl r r' := by
      split at h
      · rename_i hz; simp only [hz, if_true]; exact ⟨⟨h.1, h.2.1⟩, h.2.2⟩
      · rename_i hz; simp only [hz, Bool.false_eq_true, if_false]; exact ⟨⟨h.1, h.2.1⟩, h.2.2⟩
    cases id with
    | zero =>
      simp at h1
      obtain ⟨rfl, rfl⟩ := h1
      exact .inl ⟨m, l, rfl, q1, q2, q3, q4, q5, this.1.1, q6, hl1, this.1.2⟩
    | succ id => simp at h1; simpa using leEn_at this.2 id m1 l1 h1
  | [], (m', l') :: r', h, id, m1, l1, h1 => by
    simp only [leEn] at h
    split at h
    case h_2 => exact h.elim
    rename_i hc
    simp only [Bool.and_eq_true, Nat.beq_eq] at hc
    obtain ⟨h2, h3, h4⟩ := h
    subst h2 h3
    cases id with
    | zero =>
      simp at h1
      obtain ⟨rfl, rfl⟩ := h1
      exact .inr ⟨rfl, hc.1.1, hc.2, _, rfl⟩
    | succ id =>
      simp at h1
      have := leEn_at (e := []) h4 id m1 l1 h1
      simpa using this
theorem get_segs {s : LSt} {id : Nat} {m : Mta} {l : List Seg} (h : s.en[id]? = some (m, l)) : St.segs s.get id l.length = l := by
  apply List.ext_getElem?
  intro q
  by_cases hq : q < l.length
  · rw [St.segs_getElem _ _ _ _ hq, List.getElem?_eq_getElem hq]
    simp [St.seg, LSt.get, h, hq]
  · rw [List.getElem?_eq_none (by rw [St.segs_length]; omega), List.getElem?_eq_none (by omega)]
theorem get_mt {s : LSt} {id : Nat} {m : Mta} (h : s.get (.mt id) = .m (some m)) : ∃ l, s.en[id]? = some (m, l) := by
  simp only [LSt.get, Item.m.injEq, Option.map_eq_some_iff] at h
  obtain ⟨⟨m', l⟩, h1, h2⟩ := h
  simp at h2; subst h2
  exact ⟨l, h1⟩
theorem sim_le {E : Env} (hK : ∀ o r, E.K o r) {s s' : LSt} {w : World} {a : Act} (h : leSt s s') (hs : Sim E s.get w a) : Sim E s'.get w a := by
  obtain ⟨ro, own, hg⟩ := hs
  obtain ⟨htm, hen⟩ := h
  let own' : Own := {
    env := fun id v => if verOf s' id = some v then (match verOf s id with | some x => own.env id x | none => some none) else none
    cap := fun id _ => match verOf s id with | some x => own.cap id x | none => 0
    st := fun id q => match verOf s id with | some _ => own.st id q | none => 0
    es := fun id q => match verOf s id with | some _ => own.es id q | none => ((s'.en[id]?).map (·.1.es)).getD 0 }
  have K : Kp own own' (kpOf s s') (nlOf s s') := by
    refine ⟨fun id x y hk z hz => ?_, fun id v hn => ?_⟩
    · unfold kpOf at hk
      split at hk
      case h_2 => cases hk
      rename_i x' y' e1 e2
      simp at hk; obtain ⟨rfl, rfl⟩ := hk
      simp [own', e1, e2, hz]
    · unfold nlOf at hn
      split at hn
      case h_2 => cases hn
      rename_i y' e1 e2
      simp at hn; subst hn
      simp [own', e1, e2]
  have ver' : ∀ {id m'}, s'.get (.mt id) = .m (some m') → verOf s' id = some m'.ver := fun h => by
    obtain ⟨l, hl⟩ := get_mt h
    simp [verOf, hl]
  refine ⟨ro, own', { below := hg.below, base := hg.base, defs := hg.defs, size := hg.size, tm := ?_, rook := hg.rook, rold := hg.rold, ent := ?_, fr := ?_, frv := ?_, inj := ?_, kk := hK _ _ }⟩
  · intro t sv ht
    simp only [LSt.get, Item.v.injEq] at ht
    cases hy : s'.tm[t]? with
    | none =>
      rw [List.getD_eq_getElem?_getD, hy] at ht
      simp at ht; subst ht; exact .any _ _
    | some y =>
      rw [List.getD_eq_getElem?_getD, hy] at ht
      simp at ht; subst ht
      rcases leTm_at htm t y hy with rfl | ⟨x, hx, hle⟩
      · exact .any _ _
      · exact leC_rel K hle (hg.tm t x (by simp [LSt.get, hx]))
  · intro id m' hm'
    obtain ⟨l', hl'⟩ := get_mt hm'
    rcases leEn_at hen id m' l' hl' with ⟨m, l, hl, kk⟩ | ⟨hnone, hrow, hns, f, rfl⟩
    · have hm : s.get (.mt id) = .m (some m) := by simp [LSt.get, hl]
      have he := hg.ent id m hm
      have e1 : St.segs s.get id m.ns = l := by rw [← kk.len]; exact get_segs hl
      obtain ⟨p1, p2, p3, p4, p5, p6⟩ := leSegs_at kk.segs
      have e2 : St.segs s'.get id m'.ns = l' := by rw [← kk.ns, ← kk.len, p1]; exact get_segs hl'
      have v1 : verOf s id = some m.ver := by simp [verOf, hl]
      have v2 : verOf s' id = some m'.ver := by simp [verOf, hl']
      rw [e1] at he
      rw [e2]
      have henv : own'.env id m'.ver = own.env id m.ver := by simp [own', v1, v2]
      have hcap : own'.cap id m'.ver = own.cap id m.ver := by simp [own', v1]
      have hst : own'.st id = own.st id := by funext q; simp [own', v1]
      have hes : own'.es id = own.es id := by funext q; simp [own', v1]
      have one : ∀ {n es f}, l = [.a n es f] → ∃ f', l' = [.a n es f'] := by
        intro n es f hl0
        subst hl0
        have hs0 := kk.segs
        match l', hs0 with
        | [.a n' es' f'], h0 => obtain ⟨⟨rfl, rfl, _⟩, _⟩ := h0; exact ⟨f', rfl⟩
      constructor
      · intro q hq
        rw [hst, he.st q (by rw [kk.ns]; exact hq), p4 q]
      · intro q x hx
        obtain ⟨y, hy, hle⟩ := p5 q x hx
        rw [hes, he.es q y hy, (leSeg_at hle).2.1]
      · intro hr
        rw [← kk.row] at hr
        obtain ⟨n, f, h0, h1⟩ := he.row hr
        obtain ⟨f', h2⟩ := one h0
        refine ⟨n, f', by rw [h2, kk.es], fun b hb => ?_⟩
        rw [henv] at hb; rw [hcap]; exact h1 b hb
      · intro hr
        rw [← kk.row] at hr
        exact ⟨(kk.zero hr).2, by rw [← kk.sh, (he.plain hr).2, p3]⟩
      · rw [henv]; exact he.there
      · intro hn
        rw [henv] at hn
        obtain ⟨h0, f, h1⟩ := he.nil hn
        obtain ⟨f', h2⟩ := one h1
        exact ⟨by rw [← kk.row]; exact h0, f', by rw [h2, kk.es]⟩
      · intro b hb hz
        rw [henv] at hb
        rw [← kk.frz] at hz
        have hlv := he.live b hb hz
        have hsg := kk.segs
        rw [hz] at hsg
        simp only [Bool.false_eq_true, if_false] at hsg
        obtain ⟨_, _, _, _, _, p6'⟩ := leSegs_at hsg
        obtain ⟨cs, e, lo, hi, r0, r1, r2, r3, r4, r5, r6⟩ := hlv.body
        refine ⟨hlv.low, hlv.apart, cs, e, lo, hi, r0, by rw [← p2]; exact r1, fun t ht => ?_, by rw [← p2]; exact r3, fun k sv hk => ?_, fun hr => ?_, fun hr => ?_⟩
        · rw [hcap]; exact r2 t (by rw [kk.app]; exact ht)
        · obtain ⟨a0, q1, q2⟩ := p6' k sv hk
          exact leE_rel K q2 (r4 k a0 q1)
        · rw [← p2]; exact r5 (by rw [kk.row]; exact hr)
        · rw [hcap, hes]; exact r6 (by rw [kk.row]; exact hr)
      · intro b hb hz k hk
        rw [henv] at hb
        rw [← kk.frz] at hz
        obtain ⟨v, h1, h2⟩ := he.froze b hb hz k (by rw [p2]; exact hk)
        have hsg := kk.segs
        rw [hz] at hsg
        simp only [if_true] at hsg
        obtain ⟨_, _, _, _, _, p6'⟩ := leSegs_at hsg
        refine ⟨v, h1, fun sv hsv => ?_⟩
        obtain ⟨a0, q1, q2⟩ := p6' k sv hsv
        exact leE_rel (Kp.none _ _) q2 (h2 a0 q1)
    · have v1 : verOf s id = none := by simp [verOf, hnone]
      have v2 : verOf s' id = some m'.ver := by simp [verOf, hl']
      have e2 : St.segs s'.get id m'.ns = [Seg.a 0 m'.es f] := by rw [hns]; exact get_segs hl'
      have henv : own'.env id m'.ver = some none := by simp [own', v1, v2]
      rw [e2]
      constructor
      · intro q hq
        have : q = 0 := by omega
        subst this
        simp [own', v1, segsSize]
      · intro q x hx
        cases q with
        | zero => simp at hx; subst hx; simp [own', v1, hl', Seg.es]
        | succ q => simp at hx
      · intro _; exact ⟨0, f, rfl, fun b hb => by rw [henv] at hb; cases hb⟩
      · intro hr; rw [hrow] at hr; cases hr
      · exact ⟨_, henv⟩
      · intro _; exact ⟨hrow, f, rfl⟩
      · intro b hb; rw [henv] at hb; cases hb
      · intro b hb; rw [henv] at hb; cases hb
  · intro id hm ver
    have : verOf s' id = none := by
      simp only [LSt.get, Item.m.injEq, Option.map_eq_none_iff] at hm
      simp [verOf, hm]
    simp [own', this]
  · intro id m hm ver hv
    have := ver' hm
    simp only [own', this, Option.some.injEq]
    rw [if_neg (by omega)]
  · intro id id' m m' b hm hm' hz hz' hb hb'
    have kept : ∀ {id m}, s'.get (.mt id) = .m (some m) → m.frz = false → own'.env id m.ver = some (some b) → ∃ m0, s.get (.mt id) = .m (some m0) ∧ m0.frz = false ∧ own.env id m0.ver = some (some b) := by
      intro id m hm hz hb
      obtain ⟨l', hl'⟩ := get_mt hm
      have v2 : verOf s' id = some m.ver := by simp [verOf, hl']
      rcases leEn_at hen id m l' hl' with ⟨m0, l, hl, kk⟩ | ⟨hnone, _⟩
      · have v1 : verOf s id = some m0.ver := by simp [verOf, hl]
        refine ⟨m0, by simp [LSt.get, hl], by rw [kk.frz]; exact hz, ?_⟩
        simpa [own', v1, v2] using hb
      · have v1 : verOf s id = none := by simp [verOf, hnone]
        simp [own', v1, v2] at hb
    obtain ⟨m1, a1, a2, a3⟩ := kept hm hz hb
    obtain ⟨m2, b1, b2, b3⟩ := kept hm' hz' hb'
    exact hg.inj id id' m1 m2 b a1 b1 a2 b2 a3 b3
end Go.Sx
