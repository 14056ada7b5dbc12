import Derived.Test.YtcbjabnnokjnpaaGfBM
set_option linter.all false
/- Series and polynomials over the two fields. Plain maths. -/
set_option linter.unusedVariables false
set_option linter.unusedSectionVars false
namespace Go.Fw
variable {n : Nat}

/-- Coefficients. -/
structure Ps (n : Nat) where
  c : Nat → El n
theorem Ps.ext {f g : Ps n} (h : ∀ i, f.c i = g.c i) : f = g := by cases f; cases g; congr 1; exact funext h
def Ps.sh (f : Ps n) : Ps n := ⟨fun i => f.c (i + 1)⟩
instance : Add (Ps n) := ⟨fun f g => ⟨fun i => f.c i + g.c i⟩⟩
instance : Zero (Ps n) := ⟨⟨fun _ => 0⟩⟩
theorem Ps.add_c (f g : Ps n) (i : Nat) : (f + g).c i = f.c i + g.c i := rfl
theorem Ps.zero_c (i : Nat) : (0 : Ps n).c i = 0 := rfl
theorem Ps.add_comm (f g : Ps n) : f + g = g + f := Ps.ext fun i => El.add_comm _ _
theorem Ps.add_assoc (f g h : Ps n) : f + g + h = f + (g + h) := Ps.ext fun i => El.add_assoc _ _ _
instance : Std.Commutative (α := Ps n) (· + ·) := ⟨Ps.add_comm⟩
instance : Std.Associative (α := Ps n) (· + ·) := ⟨Ps.add_assoc⟩
theorem Ps.add_self (f : Ps n) : f + f = 0 := Ps.ext fun i => El.add_self _
theorem Ps.add_zero (f : Ps n) : f + 0 = f := Ps.ext fun i => El.add_zero _
theorem Ps.zero_add (f : Ps n) : 0 + f = f := Ps.ext fun i => El.zero_add _
variable [F : Fd n]
def mc (f g : Ps n) : Nat → El n
  | 0 => f.c 0 * g.c 0
  | k + 1 => f.c 0 * g.c (k + 1) + mc f.sh g k
instance : Mul (Ps n) := ⟨fun f g => ⟨mc f g⟩⟩
instance : One (Ps n) := ⟨⟨fun i => if i = 0 then 1 else 0⟩⟩
/-- A constant. -/
def Ps.C (a : El n) : Ps n := ⟨fun i => if i = 0 then a else 0⟩
theorem Ps.mul_0 (f g : Ps n) : (f * g).c 0 = f.c 0 * g.c 0 := rfl
theorem Ps.mul_s (f g : Ps n) (k : Nat) : (f * g).c (k + 1) = f.c 0 * g.c (k + 1) + (f.sh * g).c k := rfl
theorem Ps.sh_c (f : Ps n) (i : Nat) : f.sh.c i = f.c (i + 1) := rfl
theorem Ps.mul_add_c (f g h : Ps n) : ∀ k, (f * (g + h)).c k = (f * g).c k + (f * h).c k := by
  intro k
  induction k generalizing f with
  | zero => exact El.mul_add _ _ _
  | succ k ih => simp only [Ps.mul_s, ih, Ps.add_c, El.mul_add]; ac_rfl
theorem Ps.add_mul_c (f g h : Ps n) : ∀ k, ((f + g) * h).c k = (f * h).c k + (g * h).c k := by
  intro k
  induction k generalizing f g with
  | zero => exact El.add_mul _ _ _
  | succ k ih =>
    simp only [Ps.mul_s, Ps.add_c, El.add_mul]
    rw [show (f + g).sh = f.sh + g.sh from rfl, ih]
    ac_rfl
theorem Ps.mul_add (f g h : Ps n) : f * (g + h) = f * g + f * h := Ps.ext (Ps.mul_add_c f g h)
theorem Ps.add_mul (f g h : Ps n) : (f + g) * h = f * h + g * h := Ps.ext (Ps.add_mul_c f g h)
theorem Ps.mul_s' (f g : Ps n) (k : Nat) : (f * g).c (k + 1) = f.c (k + 1) * g.c 0 + (f * g.sh).c k := by
  induction k generalizing f with
  | zero => simp only [Ps.mul_s, Ps.mul_0, Ps.sh_c]; exact El.add_comm _ _
  | succ k ih => rw [Ps.mul_s, ih, Ps.mul_s f g.sh]; simp only [Ps.sh_c]; ac_rfl
theorem Ps.mul_comm (f g : Ps n) : f * g = g * f := by
  refine Ps.ext fun k => ?_
  induction k generalizing f g with
  | zero => exact El.mul_comm _ _
  | succ k ih => rw [Ps.mul_s, Ps.mul_s', ih, El.mul_comm]
theorem Ps.smul_c (a : El n) (f g : Ps n) : ∀ k, ((⟨fun i => a * f.c i⟩ : Ps n) * g).c k = a * (f * g).c k := by
  intro k
  induction k generalizing f with
  | zero => exact El.mul_assoc _ _ _
  | succ k ih =>
    rw [Ps.mul_s, Ps.mul_s, El.mul_add]
    rw [show (⟨fun i => a * f.c i⟩ : Ps n).sh = ⟨fun i => a * f.sh.c i⟩ from rfl, ih, El.mul_assoc]
theorem Ps.sh_mul (f g : Ps n) : (f * g).sh = (⟨fun i => f.c 0 * g.sh.c i⟩ : Ps n) + f.sh * g := Ps.ext fun k => rfl
theorem Ps.mul_assoc (f g h : Ps n) : f * g * h = f * (g * h) := by
  refine Ps.ext fun k => ?_
  induction k generalizing f g h with
  | zero => exact El.mul_assoc _ _ _
  | succ k ih =>
    rw [Ps.mul_s, Ps.sh_mul, Ps.add_mul, Ps.add_c, Ps.smul_c, ih, Ps.mul_s f, Ps.mul_s g, El.mul_add, Ps.mul_0, El.mul_assoc, El.add_assoc]
instance : Std.Commutative (α := Ps n) (· * ·) := ⟨Ps.mul_comm⟩
instance : Std.Associative (α := Ps n) (· * ·) := ⟨Ps.mul_assoc⟩
theorem Ps.zero_mul (f : Ps n) : 0 * f = 0 := by
  have h := Ps.add_mul 0 0 f
  rw [Ps.add_self, Ps.add_self] at h
  exact h
theorem Ps.mul_zero (f : Ps n) : f * 0 = 0 := by rw [Ps.mul_comm, Ps.zero_mul]
theorem Ps.C_mul (a : El n) (f : Ps n) (k : Nat) : (Ps.C a * f).c k = a * f.c k := by
  cases k with
  | zero => rfl
  | succ k =>
    rw [Ps.mul_s, show (Ps.C a : Ps n).sh = 0 from Ps.ext fun i => by show (if i + 1 = 0 then a else 0) = 0; simp, Ps.zero_mul, Ps.zero_c, El.add_zero]; rfl
theorem Ps.one_mul (f : Ps n) : 1 * f = f := Ps.ext fun k => by
  rw [show (1 : Ps n) = Ps.C 1 from rfl, Ps.C_mul, El.one_mul]
theorem Ps.mul_one (f : Ps n) : f * 1 = f := by rw [Ps.mul_comm, Ps.one_mul]
/-- X times f -/
def Ps.X (f : Ps n) : Ps n := ⟨fun i => match i with | 0 => 0 | i + 1 => f.c i⟩
theorem Ps.X_mul (f g : Ps n) : f.X * g = (f * g).X := Ps.ext fun k => by
  cases k with
  | zero => exact El.zero_mul _
  | succ k => rw [Ps.mul_s]; show 0 * _ + (f * g).c k = _; rw [El.zero_mul, El.zero_add]; rfl
theorem Ps.split (f : Ps n) : f = Ps.C (f.c 0) + f.sh.X := Ps.ext fun k => by
  cases k with
  | zero => show f.c 0 = f.c 0 + 0; rw [El.add_zero]
  | succ k => show f.c (k + 1) = 0 + f.c (k + 1); rw [El.zero_add]

/-! Degrees -/
/-- f's degree is below d. -/
def Dg (f : Ps n) (d : Nat) : Prop := ∀ i, d ≤ i → f.c i = 0
theorem Dg.mono {f : Ps n} {d e : Nat} (h : Dg f d) (hd : d ≤ e) : Dg f e := fun i hi => h i (by omega)
theorem Dg.add {f g : Ps n} {d : Nat} (hf : Dg f d) (hg : Dg g d) : Dg (f + g) d := fun i hi => by rw [Ps.add_c, hf i hi, hg i hi, El.add_zero]
theorem Dg.zero {f : Ps n} (h : Dg f 0) : f = 0 := Ps.ext fun i => h i (by omega)
theorem Dg.sh {f : Ps n} {d : Nat} (h : Dg f (d + 1)) : Dg f.sh d := fun i hi => h (i + 1) (by omega)
theorem Dg.mul {f g : Ps n} : ∀ {a b : Nat}, Dg f a → Dg g b → Dg (f * g) (a + b - 1)
  | 0, b, hf, hg => by rw [hf.zero, Ps.zero_mul]; exact fun i _ => rfl
  | a + 1, b, hf, hg => fun i hi => by
    cases i with
    | zero =>
      have : b = 0 := by omega
      subst this
      rw [hg.zero, Ps.mul_zero]; rfl
    | succ i =>
      rw [Ps.mul_s, hg (i + 1) (by omega), El.mul_zero, El.zero_add]
      exact Dg.mul hf.sh hg i (by omega)
/-! Values -/
/-! Lists -/
def co (l : List (El n)) : Ps n := ⟨fun i => l.getD i 0⟩
theorem co_dg (l : List (El n)) : Dg (co l) l.length := fun i hi => by
  show l.getD i 0 = 0
  rw [List.getD_eq_getElem?_getD, List.getElem?_eq_none hi]; rfl
theorem co_get (l : List (El n)) {i : Nat} (h : i < l.length) : (co l).c i = l[i] := by
  show l.getD i 0 = _
  rw [List.getD_eq_getElem?_getD, List.getElem?_eq_getElem h]; rfl
theorem co_ext {l m : List (El n)} (hl : l.length = m.length) (h : co l = co m) : l = m := by
  refine List.ext_getElem hl fun i h1 h2 => ?_
  rw [← co_get l h1, ← co_get m h2, h]
/-- x X^i -/
def Ps.mono (i : Nat) (x : El n) : Ps n := ⟨fun k => if k = i then x else 0⟩
theorem co_set (l : List (El n)) {i : Nat} (h : i < l.length) (x : El n) (k : Nat) : (co (l.set i x)).c k = if k = i then x else (co l).c k := by
  show (l.set i x).getD k 0 = _
  rw [List.getD_eq_getElem?_getD, List.getElem?_set]
  by_cases hk : k = i
  · subst hk; rw [if_pos rfl, if_pos h, if_pos rfl]; rfl
  · rw [if_neg (fun e => hk e.symm), if_neg hk]; rfl
theorem co_replicate (m : Nat) : co (List.replicate m (0 : El n)) = 0 := Ps.ext fun k => by
  show (List.replicate m (0 : El n)).getD k 0 = 0
  rw [List.getD_eq_getElem?_getD, List.getElem?_replicate]
  split <;> rfl
/-- The formal derivative. -/
def Ps.D (f : Ps n) : Ps n := ⟨fun i => if i % 2 = 0 then f.c (i + 1) else 0⟩
end Go.Fw
