import Derived.Test.YtbaljbadlfopgaaGfBF
set_option linter.all false
/- Series and polynomials over the two fields. Plain maths. -/
set_option linter.unusedVariables false
set_option linter.unusedSectionVars false
namespace Go.Fw
variable {n : Nat}

/-- Coefficients. -/
structure Ps (n : Nat) where
  c : Nat → El n
theorem Ps.ext {f g : Ps n} (h : ∀ i, f.c i = g.c i) : f = g := by cases f; cases g; congr 1; exact funext h
def Ps.sh (f : Ps n) : Ps n := ⟨fun i => f.c (i + 1)⟩
instance : Add (Ps n) := ⟨fun f g => ⟨fun i => f.c i + g.c i⟩⟩
instance : Zero (Ps n) := ⟨⟨fun _ => 0⟩⟩
theorem Ps.add_c (f g : Ps n) (i : Nat) : (f + g).c i = f.c i + g.c i := rfl
theorem Ps.zero_c (i : Nat) : (0 : Ps n).c i = 0 := rfl
theorem Ps.add_comm (f g : Ps n) : f + g = g + f := Ps.ext fun i => El.add_comm _ _
theorem Ps.add_assoc (f g h : Ps n) : f + g + h = f + (g + h) := Ps.ext fun i => El.add_assoc _ _ _
instance : Std.Commutative (α := Ps n) (· + ·) := ⟨Ps.add_comm⟩
instance : Std.Associative (α := Ps n) (· + ·) := ⟨Ps.add_assoc⟩
theorem Ps.add_self (f : Ps n) : f + f = 0 := Ps.ext fun i => El.add_self _
theorem Ps.add_zero (f : Ps n) : f + 0 = f := Ps.ext fun i => El.add_zero _
theorem Ps.zero_add (f : Ps n) : 0 + f = f := Ps.ext fun i => El.zero_add _
theorem Ps.add_cancel (f g : Ps n) : f + g + g = f := by rw [Ps.add_assoc, Ps.add_self, Ps.add_zero]
theorem Ps.eq_of_add {f g : Ps n} (h : f + g = 0) : f = g := by
  have := Ps.add_cancel f g
  rw [h, Ps.zero_add] at this
  exact this.symm
variable [F : Fd n]
def mc (f g : Ps n) : Nat → El n
  | 0 => f.c 0 * g.c 0
  | k + 1 => f.c 0 * g.c (k + 1) + mc f.sh g k
instance : Mul (Ps n) := ⟨fun f g => ⟨mc f g⟩⟩
instance : One (Ps n) := ⟨⟨fun i => if i = 0 then 1 else 0⟩⟩
/-- A constant. -/
def Ps.C (a : El n) : Ps n := ⟨fun i => if i = 0 then a else 0⟩
theorem Ps.mul_0 (f g : Ps n) : (f * g).c 0 = f.c 0 * g.c 0 := rfl
theorem Ps.mul_s (f g : Ps n) (k : Nat) : (f * g).c (k + 1) = f.c 0 * g.c (k + 1) + (f.sh * g).c k := rfl
theorem Ps.sh_c (f : Ps n) (i : Nat) : f.sh.c i = f.c (i + 1) := rfl
theorem Ps.mul_add_c (f g h : Ps n) : ∀ k, (f * (g + h)).c k = (f * g).c k + (f * h).c k := by
  intro k
  induction k generalizing f with
  | zero => exact El.mul_add _ _ _
  | succ k ih => simp only [Ps.mul_s, ih, Ps.add_c, El.mul_add]; ac_rfl
theorem Ps.add_mul_c (f g h : Ps n) : ∀ k, ((f + g) * h).c k = (f * h).c k + (g * h).c k := by
  intro k
  induction k generalizing f g with
  | zero => exact El.add_mul _ _ _
  | succ k ih =>
    simp only [Ps.mul_s, Ps.add_c, El.add_mul]
    rw [show (f + g).sh = f.sh + g.sh from rfl, ih]
    ac_rfl
theorem Ps.mul_add (f g h : Ps n) : f * (g + h) = f * g + f * h := Ps.ext (Ps.mul_add_c f g h)
theorem Ps.add_mul (f g h : Ps n) : (f + g) * h = f * h + g * h := Ps.ext (Ps.add_mul_c f g h)
theorem Ps.mul_s' (f g : Ps n) (k : Nat) : (f * g).c (k + 1) = f.c (k + 1) * g.c 0 + (f * g.sh).c k := by
  induction k generalizing f with
  | zero => simp only [Ps.mul_s, Ps.mul_0, Ps.sh_c]; exact El.add_comm _ _
  | succ k ih => rw [Ps.mul_s, ih, Ps.mul_s f g.sh]; simp only [Ps.sh_c]; ac_rfl
theorem Ps.mul_comm (f g : Ps n) : f * g = g * f := by
  refine Ps.ext fun k => ?_
  induction k generalizing f g with
  | zero => exact El.mul_comm _ _
  | succ k ih => rw [Ps.mul_s, Ps.mul_s', ih, El.mul_comm]
theorem Ps.smul_c (a : El n) (f g : Ps n) : ∀ k, ((⟨fun i => a * f.c i⟩ : Ps n) * g).c k = a * (f * g).c k := by
  intro k
  induction k generalizing f with
  | zero => exact El.mul_assoc _ _ _
  | succ k ih =>
    rw [Ps.mul_s, Ps.mul_s, El.mul_add]
    rw [show (⟨fun i => a * f.c i⟩ : Ps n).sh = ⟨fun i => a * f.sh.c i⟩ from rfl, ih, El.mul_assoc]
theorem Ps.sh_mul (f g : Ps n) : (f * g).sh = (⟨fun i => f.c 0 * g.sh.c i⟩ : Ps n) + f.sh * g := Ps.ext fun k => rfl
theorem Ps.mul_assoc (f g h : Ps n) : f * g * h = f * (g * h) := by
  refine Ps.ext fun k => ?_
  induction k generalizing f g h with
  | zero => exact El.mul_assoc _ _ _
  | succ k ih =>
    rw [Ps.mul_s, Ps.sh_mul, Ps.add_mul, Ps.add_c, Ps.smul_c, ih, Ps.mul_s f, Ps.mul_s g, El.mul_add, Ps.mul_0, El.mul_assoc, El.add_assoc]
instance : Std.Commutative (α := Ps n) (· * ·) := ⟨Ps.mul_comm⟩
instance : Std.Associative (α := Ps n) (· * ·) := ⟨Ps.mul_assoc⟩
theorem Ps.zero_mul (f : Ps n) : 0 * f = 0 := by
  have h := Ps.add_mul 0 0 f
  rw [Ps.add_self, Ps.add_self] at h
  exact h
theorem Ps.mul_zero (f : Ps n) : f * 0 = 0 := by rw [Ps.mul_comm, Ps.zero_mul]
theorem Ps.C_mul (a : El n) (f : Ps n) (k : Nat) : (Ps.C a * f).c k = a * f.c k := by
  cases k with
  | zero => rfl
  | succ k =>
    rw [Ps.mul_s, show (Ps.C a : Ps n).sh = 0 from Ps.ext fun i => by show (if i + 1 = 0 then a else 0) = 0; simp, Ps.zero_mul, Ps.zero_c, El.add_zero]; rfl
theorem Ps.one_mul (f : Ps n) : 1 * f = f := Ps.ext fun k => by
  rw [show (1 : Ps n) = Ps.C 1 from rfl, Ps.C_mul, El.one_mul]
theorem Ps.mul_one (f : Ps n) : f * 1 = f := by rw [Ps.mul_comm, Ps.one_mul]
/-- X times f -/
def Ps.X (f : Ps n) : Ps n := ⟨fun i => match i with | 0 => 0 | i + 1 => f.c i⟩
theorem Ps.X_mul (f g : Ps n) : f.X * g = (f * g).X := Ps.ext fun k => by
  cases k with
  | zero => exact El.zero_mul _
  | succ k => rw [Ps.mul_s]; show 0 * _ + (f * g).c k = _; rw [El.zero_mul, El.zero_add]; rfl
theorem Ps.split (f : Ps n) : f = Ps.C (f.c 0) + f.sh.X := Ps.ext fun k => by
  cases k with
  | zero => show f.c 0 = f.c 0 + 0; rw [El.add_zero]
  | succ k => show f.c (k + 1) = 0 + f.c (k + 1); rw [El.zero_add]

/-! Degrees -/
/-- f's degree is below d. -/
def Dg (f : Ps n) (d : Nat) : Prop := ∀ i, d ≤ i → f.c i = 0
theorem Dg.mono {f : Ps n} {d e : Nat} (h : Dg f d) (hd : d ≤ e) : Dg f e := fun i hi => h i (by omega)
theorem Dg.add {f g : Ps n} {d : Nat} (hf : Dg f d) (hg : Dg g d) : Dg (f + g) d := fun i hi => by rw [Ps.add_c, hf i hi, hg i hi, El.add_zero]
theorem Dg.zero {f : Ps n} (h : Dg f 0) : f = 0 := Ps.ext fun i => h i (by omega)
theorem Dg.sh {f : Ps n} {d : Nat} (h : Dg f (d + 1)) : Dg f.sh d := fun i hi => h (i + 1) (by omega)
theorem Dg.mul {f g : Ps n} : ∀ {a b : Nat}, Dg f a → Dg g b → Dg (f * g) (a + b - 1)
  | 0, b, hf, hg => by rw [hf.zero, Ps.zero_mul]; exact fun i _ => rfl
  | a + 1, b, hf, hg => fun i hi => by
    cases i with
    | zero =>
      have : b = 0 := by omega
      subst this
      rw [hg.zero, Ps.mul_zero]; rfl
    | succ i =>
      rw [Ps.mul_s, hg (i + 1) (by omega), El.mul_zero, El.zero_add]
      exact Dg.mul hf.sh hg i (by omega)
/-- The highest coefficient of a product. -/
theorem Ps.mul_top {f g : Ps n} : ∀ {a b : Nat}, Dg f (a + 1) → Dg g (b + 1) → (f * g).c (a + b) = f.c a * g.c b
  | 0, b, hf, hg => by
    have h1 : f.sh = 0 := hf.sh.zero
    cases b with
    | zero => rfl
    | succ b => rw [Nat.zero_add, Ps.mul_s, h1, Ps.zero_mul, Ps.zero_c, El.add_zero]
  | a + 1, b, hf, hg => by
    rw [show a + 1 + b = (a + b) + 1 by omega, Ps.mul_s, hg (a + b + 1) (by omega), El.mul_zero, El.zero_add]
    exact Ps.mul_top hf.sh hg

/-! Values -/
def evn (f : Ps n) (x : El n) : Nat → El n
  | 0 => 0
  | d + 1 => f.c 0 + x * evn f.sh x d
theorem evn_zero (x : El n) : ∀ d, evn (0 : Ps n) x d = 0
  | 0 => rfl
  | d + 1 => by show 0 + x * evn (0 : Ps n) x d = 0; rw [evn_zero x d, El.mul_zero, El.add_zero]
theorem evn_add (x : El n) : ∀ (d : Nat) (f g : Ps n), evn (f + g) x d = evn f x d + evn g x d
  | 0, f, g => (El.add_zero 0).symm
  | d + 1, f, g => by
    show f.c 0 + g.c 0 + x * evn (f.sh + g.sh) x d = f.c 0 + x * evn f.sh x d + (g.c 0 + x * evn g.sh x d)
    rw [evn_add x d, El.mul_add]; ac_rfl
theorem evn_more {f : Ps n} {x : El n} : ∀ {d : Nat} (e : Nat), Dg f d → evn f x (d + e) = evn f x d
  | 0, e, h => by rw [h.zero, evn_zero, evn_zero]
  | d + 1, e, h => by
    rw [show d + 1 + e = (d + e) + 1 by omega]
    show f.c 0 + x * evn f.sh x (d + e) = f.c 0 + x * evn f.sh x d
    rw [evn_more e h.sh]
theorem evn_eq {f : Ps n} {x : El n} {d e : Nat} (hd : Dg f d) (he : Dg f e) : evn f x d = evn f x e := by
  rcases Nat.le_total d e with h | h
  · have := evn_more (x := x) (e - d) hd
    rw [show d + (e - d) = e by omega] at this
    exact this.symm
  · have := evn_more (x := x) (d - e) he
    rw [show e + (d - e) = d by omega] at this
    exact this
theorem evn_smul (a x : El n) : ∀ (d : Nat) (f : Ps n), evn (⟨fun i => a * f.c i⟩ : Ps n) x d = a * evn f x d
  | 0, f => (El.mul_zero a).symm
  | d + 1, f => by
    show a * f.c 0 + x * evn (⟨fun i => a * f.sh.c i⟩ : Ps n) x d = a * (f.c 0 + x * evn f.sh x d)
    rw [evn_smul a x d, El.mul_add]; ac_rfl
theorem evn_mul (x : El n) : ∀ {a b : Nat} {f g : Ps n}, Dg f a → Dg g b → evn (f * g) x (a + b) = evn f x a * evn g x b
  | 0, b, f, g, hf, hg => by rw [hf.zero, Ps.zero_mul, evn_zero, evn_zero, El.zero_mul]
  | a + 1, b, f, g, hf, hg => by
    rw [show a + 1 + b = (a + b) + 1 by omega]
    show f.c 0 * g.c 0 + x * evn (f * g).sh x (a + b) = (f.c 0 + x * evn f.sh x a) * evn g x b
    rw [Ps.sh_mul, evn_add, evn_smul, evn_mul x hf.sh hg]
    have hg1 : evn g x b = g.c 0 + x * evn g.sh x (a + b) := by
      have := evn_more (x := x) (a + 1) hg
      rw [← this, show b + (a + 1) = (a + b) + 1 by omega]; rfl
    have e : f.c 0 * evn g x b = f.c 0 * g.c 0 + x * (f.c 0 * evn g.sh x (a + b)) := by rw [hg1, El.mul_add]; ac_rfl
    rw [El.add_mul, El.mul_add, e]
    ac_rfl

/-! Lists -/
def co (l : List (El n)) : Ps n := ⟨fun i => l.getD i 0⟩
theorem co_dg (l : List (El n)) : Dg (co l) l.length := fun i hi => by
  show l.getD i 0 = 0
  rw [List.getD_eq_getElem?_getD, List.getElem?_eq_none hi]; rfl
theorem co_get (l : List (El n)) {i : Nat} (h : i < l.length) : (co l).c i = l[i] := by
  show l.getD i 0 = _
  rw [List.getD_eq_getElem?_getD, List.getElem?_eq_getElem h]; rfl
theorem co_ext {l m : List (El n)} (hl : l.length = m.length) (h : co l = co m) : l = m := by
  refine List.ext_getElem hl fun i h1 h2 => ?_
  rw [← co_get l h1, ← co_get m h2, h]
theorem co_take {l : List (El n)} {k : Nat} (h : ∀ i, k ≤ i → (co l).c i = 0) : co (l.take k) = co l := Ps.ext fun i => by
  by_cases hi : i < k
  · show (l.take k).getD i 0 = l.getD i 0
    rw [List.getD_eq_getElem?_getD, List.getElem?_take, if_pos hi, List.getD_eq_getElem?_getD]
  · rw [h i (by omega)]
    exact co_dg (l.take k) i (by simp; omega)
theorem co_append_zeros (l : List (El n)) (k : Nat) : co (l ++ List.replicate k 0) = co l := Ps.ext fun i => by
  show (l ++ List.replicate k 0).getD i 0 = l.getD i 0
  simp only [List.getD_eq_getElem?_getD, List.getElem?_append, List.getElem?_replicate]
  split
  · rfl
  · rename_i h
    rw [List.getElem?_eq_none (by omega)]
    split <;> rfl
/-- The length without the zeros at the end. -/
def tln : List (El n) → Nat
  | [] => 0
  | x :: l => if tln l = 0 then (if x = 0 then 0 else 1) else tln l + 1
theorem tln_le : ∀ l : List (El n), tln l ≤ l.length
  | [] => Nat.le_refl _
  | x :: l => by have := tln_le l; unfold tln; simp only [List.length_cons]; split <;> (try split) <;> omega
theorem tln_dg : ∀ l : List (El n), Dg (co l) (tln l)
  | [] => fun i _ => rfl
  | x :: l => fun i hi => by
    have ih := tln_dg l
    unfold tln at hi
    cases i with
    | zero =>
      split at hi
      · split at hi
        · rename_i h; exact h
        · omega
      · omega
    | succ i =>
      show (co l).c i = 0
      refine ih i ?_
      split at hi
      · omega
      · omega
theorem tln_top : ∀ (l : List (El n)) (k : Nat), tln l = k + 1 → (co l).c k ≠ 0
  | [], k, h => by simp [tln] at h
  | x :: l, k, h => by
    unfold tln at h
    split at h
    · split at h
      · omega
      · rename_i h2
        have : k = 0 := by omega
        subst this
        exact h2
    · have : k = tln l - 1 + 1 := by omega
      rw [this]
      exact tln_top l (tln l - 1) (by omega)
theorem tln_of {l : List (El n)} {k : Nat} (h1 : Dg (co l) k) (h2 : k = 0 ∨ (co l).c (k - 1) ≠ 0) : tln l = k := by
  rcases Nat.lt_trichotomy (tln l) k with h | h | h
  · rcases h2 with h2 | h2
    · omega
    · exact absurd (tln_dg l (k - 1) (by omega)) h2
  · exact h
  · exact absurd (h1 (tln l - 1) (by omega)) (tln_top l (tln l - 1) (by omega))
/-- without the zeros at the end -/
def tr (l : List (El n)) : List (El n) := l.take (tln l)
theorem tr_co (l : List (El n)) : co (tr l) = co l := co_take (tln_dg l)
theorem tr_len (l : List (El n)) : (tr l).length = tln l := by unfold tr; rw [List.length_take]; have := tln_le l; omega
theorem tln_co {l m : List (El n)} (h : co l = co m) : tln l = tln m := by
  refine tln_of (by rw [h]; exact tln_dg m) ?_
  by_cases h0 : tln m = 0
  · exact Or.inl h0
  · right; rw [h]; exact tln_top m _ (by omega)
theorem tr_eq {l m : List (El n)} (h : co l = co m) : tr l = tr m := co_ext (by rw [tr_len, tr_len, tln_co h]) (by rw [tr_co, tr_co, h])
theorem tr_tr (l : List (El n)) : tr (tr l) = tr l := tr_eq (tr_co l)
/-- The first m coefficients. -/
def ofc (m : Nat) (f : Ps n) : List (El n) := (List.range m).map f.c
theorem ofc_len (m : Nat) (f : Ps n) : (ofc m f).length = m := by simp [ofc]
theorem ofc_co {m : Nat} {f : Ps n} (h : Dg f m) : co (ofc m f) = f := Ps.ext fun i => by
  by_cases hi : i < m
  · rw [co_get _ (by rw [ofc_len]; exact hi)]; simp [ofc]
  · rw [h i (by omega)]; exact co_dg _ i (by rw [ofc_len]; omega)
/-- x X^i -/
def Ps.mono (i : Nat) (x : El n) : Ps n := ⟨fun k => if k = i then x else 0⟩
theorem co_set (l : List (El n)) {i : Nat} (h : i < l.length) (x : El n) (k : Nat) : (co (l.set i x)).c k = if k = i then x else (co l).c k := by
  show (l.set i x).getD k 0 = _
  rw [List.getD_eq_getElem?_getD, List.getElem?_set]
  by_cases hk : k = i
  · subst hk; rw [if_pos rfl, if_pos h, if_pos rfl]; rfl
  · rw [if_neg (fun e => hk e.symm), if_neg hk]; rfl
/-- The formal derivative. -/
def Ps.D (f : Ps n) : Ps n := ⟨fun i => if i % 2 = 0 then f.c (i + 1) else 0⟩
/-- The value, by Horner. -/
def evl : List (El n) → El n → El n
  | [], _ => 0
  | a :: l, x => a + x * evl l x
theorem evl_co (x : El n) : ∀ l : List (El n), evl l x = evn (co l) x l.length
  | [] => rfl
  | a :: l => by
    show a + x * evl l x = (co (a :: l)).c 0 + x * evn (co (a :: l)).sh x l.length
    rw [evl_co x l]; rfl
theorem evl_drop (x : El n) (l : List (El n)) {k : Nat} (h : k < l.length) : evl (l.drop k) x = l[k] + x * evl (l.drop (k + 1)) x := by
  rw [List.drop_eq_getElem_cons h]; rfl
/-- X + x -/
def lin (x : El n) : Ps n := ⟨fun k => if k = 0 then x else if k = 1 then 1 else 0⟩
theorem lin_mul (x : El n) (p : Ps n) (k : Nat) : (lin x * p).c k = x * p.c k + (if k = 0 then 0 else p.c (k - 1)) := by
  have e : (lin x : Ps n) = Ps.C x + Ps.X 1 := Ps.ext fun i => by
    show (if i = 0 then x else if i = 1 then 1 else 0) = (if i = 0 then x else 0) + (match i with | 0 => 0 | i + 1 => (if i = 0 then 1 else 0))
    rcases i with _ | _ | i
    · simp [El.add_zero]
    · simp [El.zero_add]
    · simp [El.zero_add]
  rw [e, Ps.add_mul, Ps.add_c, Ps.C_mul, Ps.X_mul, Ps.one_mul]
  cases k <;> rfl
/-- The product of all X + x. -/
def vps (l : List (El n)) : Ps n := l.foldl (fun p x => lin x * p) 1
theorem lin_dg (x : El n) : Dg (lin x) 2 := fun i hi => by show (if i = 0 then x else if i = 1 then (1 : El n) else 0) = 0; rw [if_neg (by omega), if_neg (by omega)]
end Go.Fw
