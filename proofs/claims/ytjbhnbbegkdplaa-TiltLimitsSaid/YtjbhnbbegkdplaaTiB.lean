import Derived.Test.YtjbhnbbegkdplaaTiA
namespace Go.Proofs.Ti
set_option linter.unusedVariables false
set_option linter.unusedSimpArgs false
open Go Go.Sx Go.Proofs
set_option maxRecDepth 100000
abbrev cv (T : List (Nat × Ctr)) (fn : Func) (args : List SV) (r : SV) : Prop := callVC Try.prog (tab T) fn (codeOf fn) args r
def withinS (v lo hi : Int) : Bool := decide (lo ≤ v) && decide (v ≤ hi)
def clamp (n : Int) : Int := max (-16384) (min 16384 n)
def inV (v : V2) : Bool := withinS v.x (-16384) 16384 && withinS v.y (-16384) 16384
attribute [irreducible] withinS clamp inV
def c29 : Ctr := ctr sIII.dec (fun _ => True) (fun a => .bool (withinS a.1 a.2.1 a.2.2))
def T29 : List (Nat × Ctr) := [(29, c29)]
def vc29 (a b c : Int) : Prop := cv [] Try.f29 [iS a, iS b, iS c] (.bool (withinS a b c))
def c1 (f : Int → Int) : Ctr := ctr sI.dec (fun _ => True) (fun a => iS (f a))
def T32 : List (Nat × Ctr) := (32, c1 clamp) :: T29
def vc32 (a : Int) : Prop := cv T29 Try.f32 [iS a] (iS (clamp a))
def T34 : List (Nat × Ctr) := (34, c1 clamp) :: T32
def vc34 (a : Int) : Prop := cv T32 Try.f34 [iS a] (iS (clamp a))
def T30 : List (Nat × Ctr) := (30, ctr sV.dec (fun _ => True) (fun a => .bool (inV a))) :: T34
def vc30 (a : V2) : Prop := cv T34 Try.f30 [encV a] (.bool (inV a))
def T31 : List (Nat × Ctr) := (31, ctr sV.dec (fun _ => True) (fun a => .bool (inV a))) :: T30
def vc31 (a : V2) : Prop := cv T30 Try.f31 [encV a] (.bool (inV a))
def W (n : Int) : Int := IntKind.i64.wrap n
def beyondS (v : V2) (far : Int) : Bool := decide (W (W (v.x * v.x) + W (v.y * v.y)) > W (far * far))
def velS (c : Tilt) (p v n : Int) : Int := clamp (W (W (v + n) - W ((W (W (c.spring * p) + W (c.damp * v))).tdiv 256)))
def posS (p v : Int) : Int := clamp (W (p + v))
def validS (c : Tilt) : Bool := decide (0 ≤ c.spring ∧ c.spring ≤ 256 ∧ 0 ≤ c.damp ∧ c.damp ≤ 256 ∧ 0 ≤ c.ring ∧ c.ring ≤ 16384 ∧ 0 ≤ c.slam ∧ c.slam ≤ 16384 ∧ 0 ≤ c.settle ∧ c.settle ≤ 1000 ∧ 0 ≤ c.warnings ∧ c.warnings ≤ 9)
def errV (c : Tilt) : Int := if validS c then 0 else 5
def isS (c : Tilt) (s : TS) : Bool := validS c && (inV ⟨s.px, s.py⟩ && (inV ⟨s.vx, s.vy⟩ && (withinS s.quiet 0 c.settle && (withinS s.warned 0 (W (c.warnings + 1)) && s.tilted == decide (s.warned = W (c.warnings + 1))))))
def newS (s : TS) : TS := { s with warned := 0, tilted := false }
attribute [irreducible] W beyondS velS posS validS errV isS
def c36 : Ctr := ctr sVI.dec (fun _ => True) (fun a => .bool (beyondS a.1 a.2))
def T36 : List (Nat × Ctr) := (36, c36) :: T31
def vc36 (v : V2) (n : Int) : Prop := cv T31 Try.f36 [encV v, iS n] (.bool (beyondS v n))
def cMove : Ctr := ctr sCIII.dec (fun _ => True) (fun a => .tup [iS (posS a.2.1 (velS a.1 a.2.1 a.2.2.1 a.2.2.2)), iS (velS a.1 a.2.1 a.2.2.1 a.2.2.2)])
def T33 : List (Nat × Ctr) := (33, cMove) :: T36
def vc33 (c : Tilt) (p v n : Int) : Prop := cv T36 Try.f33 [encC c, iS p, iS v, iS n] (.tup [iS (posS p (velS c p v n)), iS (velS c p v n)])
def T35 : List (Nat × Ctr) := (35, cMove) :: T33
def vc35 (c : Tilt) (p v n : Int) : Prop := cv T33 Try.f35 [encC c, iS p, iS v, iS n] (.tup [iS (posS p (velS c p v n)), iS (velS c p v n)])
def T28 : List (Nat × Ctr) := (28, ctr sII.dec (fun _ => True) (fun a => .bool (withinS a.1 0 a.2))) :: T35
def vc28 (a b : Int) : Prop := cv T35 Try.f28 [iS a, iS b] (.bool (withinS a 0 b))
def cValid : Ctr := ctr sC.dec (fun _ => True) (fun c => iS (errV c))
def T19 : List (Nat × Ctr) := (19, cValid) :: T28
def vc19 (c : Tilt) : Prop := cv T28 Try.f19 [encC c] (iS (errV c))
def T20 : List (Nat × Ctr) := (20, cValid) :: T19
def vc20 (c : Tilt) : Prop := cv T19 Try.f20 [encC c] (iS (errV c))
def cIs : Ctr := ctr sCS.dec (fun _ => True) (fun a => .bool (isS a.1 a.2))
def T21 : List (Nat × Ctr) := (21, cIs) :: T20
def vc21 (c : Tilt) (s : TS) : Prop := cv T20 Try.f21 [encC c, encS s] (.bool (isS c s))
def T22 : List (Nat × Ctr) := (22, cIs) :: T21
def vc22 (c : Tilt) (s : TS) : Prop := cv T21 Try.f22 [encC c, encS s] (.bool (isS c s))
def cNew : Ctr := ctr sS.dec (fun _ => True) (fun s => encS (newS s))
def T23 : List (Nat × Ctr) := (23, cNew) :: T22
def vc23 (s : TS) : Prop := cv T22 Try.f23 [encS s] (encS (newS s))
def T24 : List (Nat × Ctr) := (24, cNew) :: T23
def vc24 (s : TS) : Prop := cv T23 Try.f24 [encS s] (encS (newS s))
theorem vc29_eq (a b c : Int) : (True ∧ (decide (a ≥ b) = true → True ∧ True ∧ decide (a ≤ c) = withinS a b c ∧ True) ∧ (decide (a ≥ b) = false → True ∧ True ∧ withinS a b c = false ∧ True)) = vc29 a b c := by kernel_rfl
theorem vc32_eq (a : Int) : (True ∧ True ∧ True ∧ (if (if a < (16384 : Int) then a else (16384 : Int)) > (-16384 : Int) then if a < (16384 : Int) then a else (16384 : Int) else (-16384 : Int)) = clamp a ∧ True) = vc32 a := by kernel_rfl
theorem vc34_eq (a : Int) : (True ∧ True ∧ True ∧ (if (16384 : Int) < if (-16384 : Int) > a then (-16384 : Int) else a then (16384 : Int) else if (-16384 : Int) > a then (-16384 : Int) else a) = clamp a ∧ True) = vc34 a := by kernel_rfl
theorem vc30_eq (a : V2) : (True ∧ True ∧ True ∧ True ∧ ((True ∧ True ∧ True) ∧ True) ∧ (withinS a.x (-16384 : Int) (16384 : Int) = true → True ∧ True ∧ True ∧ ((True ∧ True ∧ True) ∧ True) ∧ True ∧ True ∧ withinS a.y (-16384 : Int) (16384 : Int) = inV a ∧ True) ∧ (withinS a.x (-16384 : Int) (16384 : Int) = false → True ∧ True ∧ inV a = false ∧ True)) = vc30 a := by kernel_rfl
theorem vc31_eq (a : V2) : (True ∧ True ∧ (True ∧ True) ∧ ((a.x == clamp a.x) = true → True ∧ (True ∧ True) ∧ IsT true ∧ True ∧ (a.y == clamp a.y) = inV a ∧ True) ∧ ((a.x == clamp a.x) = false → IsT true ∧ True ∧ inV a = false ∧ True)) = vc31 a := by kernel_rfl
theorem vc36_eq (v : V2) (n : Int) : (True ∧ True ∧ True ∧ decide (IntKind.i64.wrap (IntKind.i64.wrap (v.x * v.x) + IntKind.i64.wrap (v.y * v.y)) > IntKind.i64.wrap (n * n)) = beyondS v n ∧ True) = vc36 v n := by kernel_rfl
theorem vc33_eq (c : Tilt) (p v n : Int) : (True ∧ (256 : Int) ≠ (0 : Int) ∧ True ∧ (True ∧ True) ∧ True ∧ True ∧ (True ∧ True) ∧ True ∧ True ∧ True ∧ (clamp (IntKind.i64.wrap (p + clamp (IntKind.i64.wrap (IntKind.i64.wrap (v + n) - IntKind.i64.wrap ((IntKind.i64.wrap (IntKind.i64.wrap (c.spring * p) + IntKind.i64.wrap (c.damp * v))).tdiv (256 : Int)))))) = posS p (velS c p v n) ∧ clamp (IntKind.i64.wrap (IntKind.i64.wrap (v + n) - IntKind.i64.wrap ((IntKind.i64.wrap (IntKind.i64.wrap (c.spring * p) + IntKind.i64.wrap (c.damp * v))).tdiv (256 : Int)))) = velS c p v n ∧ True) ∧ True) = vc33 c p v n := by kernel_rfl
theorem vc35_eq (c : Tilt) (p v n : Int) : (True ∧ (256 : Int) ≠ (0 : Int) ∧ True ∧ (True ∧ True) ∧ True ∧ True ∧ (True ∧ True) ∧ True ∧ True ∧ True ∧ (clamp (IntKind.i64.wrap (p + clamp (IntKind.i64.wrap (IntKind.i64.wrap (v + n) - IntKind.i64.wrap ((IntKind.i64.wrap (IntKind.i64.wrap (c.spring * p) + IntKind.i64.wrap (c.damp * v))).tdiv (256 : Int)))))) = posS p (velS c p v n) ∧ clamp (IntKind.i64.wrap (IntKind.i64.wrap (v + n) - IntKind.i64.wrap ((IntKind.i64.wrap (IntKind.i64.wrap (c.spring * p) + IntKind.i64.wrap (c.damp * v))).tdiv (256 : Int)))) = velS c p v n ∧ True) ∧ True) = vc35 c p v n := by kernel_rfl
theorem vc28_eq (a b : Int) : (True ∧ True ∧ True ∧ True ∧ ((True ∧ True ∧ True) ∧ True) ∧ True ∧ True ∧ withinS a (0 : Int) b = withinS a (0 : Int) b ∧ True) = vc28 a b := by kernel_rfl
theorem vc19_eq (c : Tilt) : (True ∧ (decide (c.spring < (0 : Int)) = true → True ∧ True ∧ True ∧ (5 : Int) = errV c ∧ True) ∧ (decide (c.spring < (0 : Int)) = false → (decide (c.spring > (256 : Int)) = true → True ∧ True ∧ True ∧ (5 : Int) = errV c ∧ True) ∧ (decide (c.spring > (256 : Int)) = false → (decide (c.damp < (0 : Int)) = true → True ∧ True ∧ True ∧ (5 : Int) = errV c ∧ True) ∧ (decide (c.damp < (0 : Int)) = false → (decide (c.damp > (256 : Int)) = true → True ∧ True ∧ True ∧ (5 : Int) = errV c ∧ True) ∧ (decide (c.damp > (256 : Int)) = false → (decide (c.ring < (0 : Int)) = true → True ∧ True ∧ True ∧ (5 : Int) = errV c ∧ True) ∧ (decide (c.ring < (0 : Int)) = false → (decide (c.ring > (16384 : Int)) = true → True ∧ True ∧ True ∧ (5 : Int) = errV c ∧ True) ∧ (decide (c.ring > (16384 : Int)) = false → (decide (c.slam < (0 : Int)) = true → True ∧ True ∧ True ∧ (5 : Int) = errV c ∧ True) ∧ (decide (c.slam < (0 : Int)) = false → (decide (c.slam > (16384 : Int)) = true → True ∧ True ∧ True ∧ (5 : Int) = errV c ∧ True) ∧ (decide (c.slam > (16384 : Int)) = false → (decide (c.settle < (0 : Int)) = true → True ∧ True ∧ True ∧ (5 : Int) = errV c ∧ True) ∧ (decide (c.settle < (0 : Int)) = false → (decide (c.settle > (1000 : Int)) = true → True ∧ True ∧ True ∧ (5 : Int) = errV c ∧ True) ∧ (decide (c.settle > (1000 : Int)) = false → (decide (c.warnings < (0 : Int)) = true → True ∧ True ∧ True ∧ (5 : Int) = errV c ∧ True) ∧ (decide (c.warnings < (0 : Int)) = false → True ∧ (decide (c.warnings > (9 : Int)) = true → True ∧ True ∧ (5 : Int) = errV c ∧ True) ∧ (decide (c.warnings > (9 : Int)) = false → True ∧ True ∧ (0 : Int) = errV c ∧ True))))))))))))) = vc19 c := by kernel_rfl
theorem vc20_eq (c : Tilt) : (True ∧ True ∧ True ∧ True ∧ ((True ∧ True) ∧ True) ∧ (withinS c.spring (0 : Int) (256 : Int) = true → True ∧ True ∧ ((True ∧ True) ∧ True) ∧ (withinS c.damp (0 : Int) (256 : Int) = true → True ∧ True ∧ ((True ∧ True) ∧ True) ∧ (withinS c.ring (0 : Int) (16384 : Int) = true → True ∧ True ∧ ((True ∧ True) ∧ True) ∧ (withinS c.slam (0 : Int) (16384 : Int) = true → True ∧ True ∧ ((True ∧ True) ∧ True) ∧ (withinS c.settle (0 : Int) (1000 : Int) = true → True ∧ True ∧ ((True ∧ True) ∧ True) ∧ True ∧ (withinS c.warnings (0 : Int) (9 : Int) = true → True ∧ True ∧ (0 : Int) = errV c ∧ True) ∧ (withinS c.warnings (0 : Int) (9 : Int) = false → True ∧ True ∧ (5 : Int) = errV c ∧ True)) ∧ (withinS c.settle (0 : Int) (1000 : Int) = false → True ∧ True ∧ True ∧ (5 : Int) = errV c ∧ True)) ∧ (withinS c.slam (0 : Int) (16384 : Int) = false → True ∧ True ∧ True ∧ (5 : Int) = errV c ∧ True)) ∧ (withinS c.ring (0 : Int) (16384 : Int) = false → True ∧ True ∧ True ∧ (5 : Int) = errV c ∧ True)) ∧ (withinS c.damp (0 : Int) (256 : Int) = false → True ∧ True ∧ True ∧ (5 : Int) = errV c ∧ True)) ∧ (withinS c.spring (0 : Int) (256 : Int) = false → True ∧ True ∧ True ∧ (5 : Int) = errV c ∧ True)) = vc20 c := by kernel_rfl
theorem vc21_eq (c : Tilt) (s : TS) : (True ∧ True ∧ (True ∧ True) ∧ ((errV c == (0 : Int)) = true → True ∧ (True ∧ True) ∧ (inV { x := s.px, y := s.py : V2 } = true → True ∧ (True ∧ True) ∧ (inV { x := s.vx, y := s.vy : V2 } = true → True ∧ True ∧ True ∧ ((True ∧ True ∧ True) ∧ True) ∧ (withinS s.quiet (0 : Int) c.settle = true → True ∧ True ∧ True ∧ ((True ∧ True ∧ True) ∧ True) ∧ (withinS s.warned (0 : Int) (IntKind.i64.wrap (c.warnings + (1 : Int))) = true → True ∧ True ∧ (s.tilted == (s.warned == IntKind.i64.wrap (c.warnings + (1 : Int)))) = isS c s ∧ True) ∧ (withinS s.warned (0 : Int) (IntKind.i64.wrap (c.warnings + (1 : Int))) = false → True ∧ True ∧ isS c s = false ∧ True)) ∧ (withinS s.quiet (0 : Int) c.settle = false → True ∧ True ∧ isS c s = false ∧ True)) ∧ (inV { x := s.vx, y := s.vy : V2 } = false → True ∧ True ∧ isS c s = false ∧ True)) ∧ (inV { x := s.px, y := s.py : V2 } = false → True ∧ True ∧ isS c s = false ∧ True)) ∧ ((errV c == (0 : Int)) = false → True ∧ True ∧ isS c s = false ∧ True)) = vc21 c s := by kernel_rfl
theorem vc22_eq (c : Tilt) (s : TS) : (True ∧ True ∧ (True ∧ True) ∧ ((errV c == (0 : Int)) = true → True ∧ (True ∧ True) ∧ (inV { x := s.px, y := s.py : V2 } = true → True ∧ (True ∧ True) ∧ (inV { x := s.vx, y := s.vy : V2 } = true → (decide (s.quiet ≥ (0 : Int)) = true → (decide (s.quiet ≤ c.settle) = true → (decide (s.warned ≥ (0 : Int)) = true → (decide (s.warned ≤ IntKind.i64.wrap (c.warnings + (1 : Int))) = true → True ∧ True ∧ (s.tilted == (s.warned == IntKind.i64.wrap (c.warnings + (1 : Int)))) = isS c s ∧ True) ∧ (decide (s.warned ≤ IntKind.i64.wrap (c.warnings + (1 : Int))) = false → True ∧ True ∧ isS c s = false ∧ True)) ∧ (decide (s.warned ≥ (0 : Int)) = false → True ∧ True ∧ isS c s = false ∧ True)) ∧ (decide (s.quiet ≤ c.settle) = false → True ∧ True ∧ isS c s = false ∧ True)) ∧ (decide (s.quiet ≥ (0 : Int)) = false → True ∧ True ∧ isS c s = false ∧ True)) ∧ (inV { x := s.vx, y := s.vy : V2 } = false → True ∧ True ∧ isS c s = false ∧ True)) ∧ (inV { x := s.px, y := s.py : V2 } = false → True ∧ True ∧ isS c s = false ∧ True)) ∧ ((errV c == (0 : Int)) = false → True ∧ True ∧ isS c s = false ∧ True)) = vc22 c s := by kernel_rfl
theorem vc23_eq (s : TS) : (True ∧ True ∧ True ∧ True ∧ (s.px = (newS s).px ∧ s.py = (newS s).py ∧ s.vx = (newS s).vx ∧ s.vy = (newS s).vy ∧ s.closed = (newS s).closed ∧ s.quiet = (newS s).quiet ∧ (0 : Int) = (newS s).warned ∧ (newS s).tilted = false ∧ s.slammed = (newS s).slammed ∧ True) ∧ True) = vc23 s := by kernel_rfl
theorem vc24_eq (s : TS) : (True ∧ True ∧ True ∧ True ∧ (s.px = (newS s).px ∧ s.py = (newS s).py ∧ s.vx = (newS s).vx ∧ s.vy = (newS s).vy ∧ s.closed = (newS s).closed ∧ s.quiet = (newS s).quiet ∧ (0 : Int) = (newS s).warned ∧ (newS s).tilted = false ∧ s.slammed = (newS s).slammed ∧ True) ∧ True) = vc24 s := by kernel_rfl
theorem k29 : TabOK Try.prog T29 := fn_tab (T := []) trivial hm Try.func29 (by kernel_rfl) (by kernel_rfl) sIII.ok (by kernel_rfl) fun a _ => by
  have h : vc29 a.1 a.2.1 a.2.2 := by
    rw [← vc29_eq]
    simp [withinS]; omega
  exact h
theorem k32 : TabOK Try.prog T32 := fn_tab k29 hm Try.func32 (by kernel_rfl) (by kernel_rfl) sI.ok (by kernel_rfl) fun a _ => by
  have h : vc32 a := by
    rw [← vc32_eq]
    simp [clamp]; omega
  exact h
theorem k34 : TabOK Try.prog T34 := fn_tab k32 hm Try.func34 (by kernel_rfl) (by kernel_rfl) sI.ok (by kernel_rfl) fun a _ => by
  have h : vc34 a := by
    rw [← vc34_eq]
    simp [clamp]; omega
  exact h
theorem k30 : TabOK Try.prog T30 := fn_tab k34 hm Try.func30 (by kernel_rfl) (by kernel_rfl) sV.ok (by kernel_rfl) fun a _ => by
  have h : vc30 a := by
    rw [← vc30_eq]
    simp [inV]; grind
  exact h
theorem k31 : TabOK Try.prog T31 := fn_tab k30 hm Try.func31 (by kernel_rfl) (by kernel_rfl) sV.ok (by kernel_rfl) fun a _ => by
  have h : vc31 a := by
    rw [← vc31_eq]
    simp only [inV, withinS, clamp]
    have e1 : ∀ x : Int, (x == max (-16384) (min 16384 x)) = (decide (-16384 ≤ x) && decide (x ≤ 16384)) := by
      intro x; rw [Bool.eq_iff_iff]; simp; omega
    simp [e1, isT]; grind
  exact h
theorem k36 : TabOK Try.prog T36 := fn_tab k31 hm Try.func36 (by kernel_rfl) (by kernel_rfl) sVI.ok (by kernel_rfl) fun a _ => by
  have h : vc36 a.1 a.2 := by
    rw [← vc36_eq]
    simp [beyondS, W]
  exact h
theorem k33 : TabOK Try.prog T33 := fn_tab k36 hm Try.func33 (by kernel_rfl) (by kernel_rfl) sCIII.ok (by kernel_rfl) fun a _ => by
  have h : vc33 a.1 a.2.1 a.2.2.1 a.2.2.2 := by
    rw [← vc33_eq]
    simp [posS, velS, W]
  exact h
theorem k35 : TabOK Try.prog T35 := fn_tab k33 hm Try.func35 (by kernel_rfl) (by kernel_rfl) sCIII.ok (by kernel_rfl) fun a _ => by
  have h : vc35 a.1 a.2.1 a.2.2.1 a.2.2.2 := by
    rw [← vc35_eq]
    simp [posS, velS, W]
  exact h
theorem k28 : TabOK Try.prog T28 := fn_tab k35 hm Try.func28 (by kernel_rfl) (by kernel_rfl) sII.ok (by kernel_rfl) fun a _ => by
  have h : vc28 a.1 a.2 := by
    rw [← vc28_eq]
    simp
  exact h
theorem k19 : TabOK Try.prog T19 := fn_tab k28 hm Try.func19 (by kernel_rfl) (by kernel_rfl) sC.ok (by kernel_rfl) fun a _ => by
  have h : vc19 a := by
    rw [← vc19_eq]
    simp [errV, validS]; omega
  exact h
theorem k20 : TabOK Try.prog T20 := fn_tab k19 hm Try.func20 (by kernel_rfl) (by kernel_rfl) sC.ok (by kernel_rfl) fun a _ => by
  have h : vc20 a := by
    rw [← vc20_eq]
    simp [errV, validS, withinS]; omega
  exact h
theorem k21 : TabOK Try.prog T21 := fn_tab k20 hm Try.func21 (by kernel_rfl) (by kernel_rfl) sCS.ok (by kernel_rfl) fun a _ => by
  have h : vc21 a.1 a.2 := by
    rw [← vc21_eq]
    simp only [isS, errV, W]
    cases validS a.1 <;> cases inV ⟨a.2.px, a.2.py⟩ <;> cases inV ⟨a.2.vx, a.2.vy⟩ <;> cases withinS a.2.quiet 0 a.1.settle <;> cases withinS a.2.warned 0 (IntKind.i64.wrap (a.1.warnings + 1)) <;> simp <;> rfl
  exact h
theorem k22 : TabOK Try.prog T22 := fn_tab k21 hm Try.func22 (by kernel_rfl) (by kernel_rfl) sCS.ok (by kernel_rfl) fun a _ => by
  have h : vc22 a.1 a.2 := by
    rw [← vc22_eq]
    simp only [isS, errV, W, withinS]
    cases validS a.1 <;> cases inV ⟨a.2.px, a.2.py⟩ <;> cases inV ⟨a.2.vx, a.2.vy⟩ <;> simp <;> grind
  exact h
theorem k23 : TabOK Try.prog T23 := fn_tab k22 hm Try.func23 (by kernel_rfl) (by kernel_rfl) sS.ok (by kernel_rfl) fun a _ => by
  have h : vc23 a := by
    rw [← vc23_eq]
    simp [newS]
  exact h
theorem k24 : TabOK Try.prog T24 := fn_tab k23 hm Try.func24 (by kernel_rfl) (by kernel_rfl) sS.ok (by kernel_rfl) fun a _ => by
  have h : vc24 a := by
    rw [← vc24_eq]
    simp [newS]
  exact h
end Go.Proofs.Ti
