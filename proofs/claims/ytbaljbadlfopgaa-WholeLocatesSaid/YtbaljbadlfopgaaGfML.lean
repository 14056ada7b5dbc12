import Derived.Test.YtbaljbadlfopgaaGfWhL
import Derived.Test.YtbaljbadlfopgaaGfPL
set_option linter.all false
/- The values elsewhere of the polynomial that has given values on one coset. Plain maths. -/
set_option linter.unusedVariables false
namespace Go.Fw
theorem wel_inj {i j : Nat} (hi : i < 65536) (hj : j < 65536) (h : wel i = wel j) : i = j := by
  have := congrArg (fun e : El 16 => bix e.v) h
  simp only [wel, bix_w] at this
  have := congrArg BitVec.toNat this
  simpa [Nat.mod_eq_of_lt hi, Nat.mod_eq_of_lt hj] using this
end Go.Fw

/- Derivatives, and the products of linear factors. Plain maths. -/
set_option linter.unusedVariables false
set_option linter.unusedSectionVars false
namespace Go.Fw
variable {n : Nat}
def Ps.e (p : Nat) (f : Ps n) : Ps n := ⟨fun k => if (k + p) % 2 = 1 then f.c k else 0⟩
theorem Ps.sh_e (p : Nat) (f : Ps n) : (f.e p).sh = f.sh.e (p + 1) := Ps.ext fun k => by
  show (if (k + 1 + p) % 2 = 1 then f.c (k + 1) else 0) = (if (k + (p + 1)) % 2 = 1 then f.c (k + 1) else 0)
  rw [show k + 1 + p = k + (p + 1) by omega]
theorem odd_add (a b : Nat) (x : El n) : (if a % 2 = 1 then x else 0) + (if b % 2 = 1 then x else 0) = if (a + b) % 2 = 1 then x else 0 := by
  by_cases ha : a % 2 = 1 <;> by_cases hb : b % 2 = 1
  · rw [if_pos ha, if_pos hb, if_neg (by omega), El.add_self]
  · rw [if_pos ha, if_neg hb, if_pos (by omega), El.add_zero]
  · rw [if_neg ha, if_pos hb, if_pos (by omega), El.zero_add]
  · rw [if_neg ha, if_neg hb, if_neg (by omega), El.add_zero]
variable [F : Fd n]
theorem ite_mul (c : Prop) [Decidable c] (x y : El n) : (if c then x else 0) * y = if c then x * y else 0 := by split <;> simp [El.zero_mul]
theorem mul_ite (c : Prop) [Decidable c] (x y : El n) : x * (if c then y else 0) = if c then x * y else 0 := by split <;> simp [El.mul_zero]
theorem Ps.e_mul (q : Nat) (g : Ps n) : ∀ (k p : Nat) (f : Ps n), (f.e p * g).c k + (f * g.e q).c k = if (k + p + q) % 2 = 1 then (f * g).c k else 0
  | 0, p, f => by
    show (if (0 + p) % 2 = 1 then f.c 0 else 0) * g.c 0 + f.c 0 * (if (0 + q) % 2 = 1 then g.c 0 else 0) = if (0 + p + q) % 2 = 1 then f.c 0 * g.c 0 else 0
    rw [ite_mul, mul_ite, odd_add]
    congr 2; omega
  | k + 1, p, f => by
    rw [Ps.mul_s, Ps.mul_s, Ps.mul_s, Ps.sh_e]
    have ih := Ps.e_mul q g k (p + 1) f.sh
    have e1 : (f.e p).c 0 * g.c (k + 1) + f.c 0 * (g.e q).c (k + 1) = if (k + 1 + p + q) % 2 = 1 then f.c 0 * g.c (k + 1) else 0 := by
      show (if (0 + p) % 2 = 1 then f.c 0 else 0) * g.c (k + 1) + f.c 0 * (if (k + 1 + q) % 2 = 1 then g.c (k + 1) else 0) = _
      rw [ite_mul, mul_ite, odd_add]
      congr 2; omega
    have e2 : (f.e p).c 0 * g.c (k + 1) + (f.sh.e (p + 1) * g).c k + (f.c 0 * (g.e q).c (k + 1) + (f.sh * g.e q).c k) = ((f.e p).c 0 * g.c (k + 1) + f.c 0 * (g.e q).c (k + 1)) + ((f.sh.e (p + 1) * g).c k + (f.sh * g.e q).c k) := by ac_rfl
    rw [e2, e1, ih, show k + (p + 1) + q = k + 1 + p + q by omega]
    split <;> simp [El.add_zero]
theorem Ps.X_D (f : Ps n) : f.D.X = f.e 0 := Ps.ext fun k => by
  cases k with
  | zero => rfl
  | succ k =>
    show (if k % 2 = 0 then f.c (k + 1) else 0) = (if (k + 1 + 0) % 2 = 1 then f.c (k + 1) else 0)
    by_cases h : k % 2 = 0
    · rw [if_pos h, if_pos (by omega)]
    · rw [if_neg h, if_neg (by omega)]
theorem Ps.X_inj {f g : Ps n} (h : f.X = g.X) : f = g := Ps.ext fun k => by
  have := congrArg (fun p => p.c (k + 1)) h
  exact this
/-- The product rule. -/
theorem Ps.D_mul (f g : Ps n) : (f * g).D = f.D * g + f * g.D := by
  apply Ps.X_inj
  rw [Ps.X_D]
  have e : (f.D * g + f * g.D).X = f.D.X * g + f * g.D.X := by
    rw [Ps.X_mul, Ps.mul_comm f g.D.X, Ps.X_mul, Ps.mul_comm g.D f]
    refine Ps.ext fun k => ?_
    cases k with
    | zero => exact (El.add_zero 0).symm
    | succ k => rfl
  rw [e, Ps.X_D, Ps.X_D]
  refine Ps.ext fun k => ?_
  rw [Ps.add_c, Ps.e_mul]
  rfl
theorem Ps.D_lin (a : El n) : (lin a).D = 1 := Ps.ext fun k => by
  show (if k % 2 = 0 then (if k + 1 = 0 then a else if k + 1 = 1 then 1 else 0) else 0) = (if k = 0 then 1 else 0)
  rcases k with _ | k
  · rfl
  · rw [if_neg (by omega : ¬ k + 1 + 1 = 0), if_neg (by omega : ¬ k + 1 + 1 = 1)]
    split <;> simp
theorem Dg.D {f : Ps n} {d : Nat} (h : Dg f d) : Dg f.D d := fun i hi => by
  show (if i % 2 = 0 then f.c (i + 1) else 0) = 0
  rw [h (i + 1) (by omega)]; split <;> rfl
theorem Dg.one : Dg (1 : Ps n) 1 := fun i hi => by show (if i = 0 then (1 : El n) else 0) = 0; rw [if_neg (by omega)]
theorem Dg.lin_mul {f : Ps n} {d : Nat} (a : El n) (h : Dg f d) : Dg (lin a * f) (d + 1) := ((lin_dg a).mul h).mono (by omega)
theorem vps_snoc (l : List (El n)) (a : El n) : vps (l ++ [a]) = lin a * vps l := by unfold vps; rw [List.foldl_append]; rfl
theorem snoc_ind {α : Type} {P : List α → Prop} (h0 : P []) (h1 : ∀ l a, P l → P (l ++ [a])) (l : List α) : P l := by
  have : ∀ m : List α, P m.reverse := by
    intro m
    induction m with
    | nil => exact h0
    | cons a m ih => rw [List.reverse_cons]; exact h1 _ _ ih
  have := this l.reverse
  rwa [List.reverse_reverse] at this
theorem vps_dg (l : List (El n)) : Dg (vps l) (l.length + 1) := by
  induction l using snoc_ind with
  | h0 => exact Dg.one
  | h1 l a ih => rw [vps_snoc, List.length_append]; exact ih.lin_mul a
/-- The value of a series with a bound. -/
theorem ev_lin_mul {f : Ps n} {d : Nat} (a x : El n) (h : Dg f d) : evn (lin a * f) x (d + 1) = (a + x) * evn f x d := by
  have h1 := evn_mul x (lin_dg a) h
  have h2 : evn (lin a) x 2 = a + x := by
    show a + x * (1 + x * 0) = _
    rw [El.mul_zero, El.add_zero, El.mul_one]
  rw [h2] at h1
  rw [← h1]
  exact evn_eq (h.lin_mul a) (((lin_dg a).mul h).mono (by omega))
theorem ev_vps_zero (x : El n) (l : List (El n)) : evn (vps l) x (l.length + 1) = 0 ↔ x ∈ l := by
  induction l using snoc_ind with
  | h0 =>
    show (if (0 : Nat) = 0 then (1 : El n) else 0) + x * 0 = 0 ↔ _
    rw [if_pos rfl, El.mul_zero, El.add_zero]
    exact ⟨fun h => absurd h El.one_ne, fun h => by cases h⟩
  | h1 l a ih =>
    rw [vps_snoc, List.length_append, List.length_singleton, ev_lin_mul a x (vps_dg l), El.mul_eq_zero, ih, El.add_eq_zero, List.mem_append, List.mem_singleton]
    exact ⟨fun h => by rcases h with h | h; · exact Or.inr h.symm
                       · exact Or.inl h, fun h => by rcases h with h | h; · exact Or.inr h
                                                     · exact Or.inl h.symm⟩
end Go.Fw

/- The polynomials s_i and X_j in powers of x. Plain maths. -/
set_option linter.unusedVariables false
namespace Go.Fw
end Go.Fw
