/- Lists in the basis X_j as polynomials; the derivative in that basis; s_i as a product over its zeros. Plain maths. -/
import Derived.Test.YtikaanmmdemaiaaGfMD
import Derived.Test.YtikaanmmdemaiaaGfWD
set_option linter.all false
set_option linter.unusedVariables false
namespace Go.Fw
theorem pow_le16' {k : Nat} (h : k ≤ 16) : 2 ^ k ≤ 65536 := by have : 2 ^ k ≤ 2 ^ 16 := Nat.pow_le_pow_right (by omega) h; omega
theorem and_pow (n i : Nat) : n &&& 2 ^ i = if n.testBit i then 2 ^ i else 0 := by
  refine Nat.eq_of_testBit_eq fun t => ?_
  rw [Nat.testBit_and, Nat.testBit_two_pow]
  by_cases h : i = t
  · subst h
    by_cases hb : n.testBit i = true
    · rw [if_pos hb, hb, Nat.testBit_two_pow]; simp
    · rw [if_neg hb]; simp at hb; simp [hb]
  · split
    · rw [Nat.testBit_two_pow]
      simp [h]
    · simp [h]
/-- c times f -/
def smP (c : El 16) (f : Ps 16) : Ps 16 := ⟨fun t => c * f.c t⟩
/-- The sum of d j X_j, j below n. -/
def mP (k : Nat) (d : Nat → El 16) : Nat → Ps 16
  | 0 => 0
  | n + 1 => mP k d n + smP (d n) (xP k n)
theorem smP_C (c : El 16) (f : Ps 16) : smP c f = Ps.C c * f := Ps.ext fun k => (Ps.C_mul c f k).symm
theorem mP_congr {k : Nat} {d e : Nat → El 16} : ∀ {n}, (∀ j, j < n → d j = e j) → mP k d n = mP k e n
  | 0, _ => rfl
  | n + 1, h => by show mP k d n + _ = mP k e n + _; rw [mP_congr fun j hj => h j (by omega), h n (by omega)]
theorem smP_mul (c : El 16) (f g : Ps 16) : smP c f * g = smP c (f * g) := by rw [smP_C, smP_C, Ps.mul_assoc]
theorem add_smP (a b : El 16) (f : Ps 16) : smP (a + b) f = smP a f + smP b f := Ps.ext fun t => El.add_mul _ _ _
theorem zero_smP (f : Ps 16) : smP 0 f = 0 := Ps.ext fun t => El.zero_mul _
theorem mP_addf (k : Nat) (d e : Nat → El 16) : ∀ n, mP k (fun j => d j + e j) n = mP k d n + mP k e n
  | 0 => (Ps.add_zero _).symm
  | n + 1 => by
    show mP k _ n + smP (d n + e n) _ = (mP k d n + smP (d n) _) + (mP k e n + smP (e n) _)
    rw [mP_addf k d e n, add_smP]
    refine Ps.ext fun t => ?_
    simp only [Ps.add_c]
    ac_rfl
theorem mP_half (k : Nat) (d : Nat → El 16) : ∀ m, m ≤ 2 ^ k → mP (k + 1) d (2 ^ k + m) = mP k d (2 ^ k) + mP k (fun j => d (2 ^ k + j)) m * sP k
  | 0, _ => by
    show mP (k + 1) d (2 ^ k) = _ + 0 * _
    rw [Ps.zero_mul, Ps.add_zero]
    have key : ∀ n, n ≤ 2 ^ k → mP (k + 1) d n = mP k d n := fun n => by
      induction n with
      | zero => intro _; rfl
      | succ n ih => intro h; show mP (k + 1) d n + _ = mP k d n + _; rw [ih (by omega), xP_low (by omega)]
    exact key _ (Nat.le_refl _)
  | m + 1, h => by
    show mP (k + 1) d (2 ^ k + m) + smP (d (2 ^ k + m)) (xP (k + 1) (2 ^ k + m)) = _ + (mP k (fun j => d (2 ^ k + j)) m + smP (d (2 ^ k + m)) (xP k m)) * sP k
    rw [mP_half k d m (by omega), xP_high, Ps.add_mul, smP_mul, Ps.add_assoc]
/-! The derivative. -/
def dX (k : Nat) (d : Nat → El 16) (j : Nat) : El 16 := esum k fun i => if j.testBit i then 0 else d (j + 2 ^ i)
theorem sP_D : ∀ i, (sP i).D = 1
  | 0 => by
    rw [sP_zero]
    refine Ps.ext fun k => ?_
    show (if k % 2 = 0 then (if k + 1 = 1 then (1 : El 16) else 0) else 0) = if k = 0 then 1 else 0
    by_cases h : k = 0
    · subst h; rfl
    · rw [if_neg h, if_neg (show ¬ k + 1 = 1 by omega)]; split <;> rfl
  | i + 1 => by
    rw [sP_succ, Ps.D_add, Ps.D_mul, sP_D i, Ps.one_mul, Ps.mul_one, Ps.add_self]
    exact Ps.ext fun k => El.zero_add _
theorem mP_D : ∀ (k : Nat) (d : Nat → El 16), (mP k d (2 ^ k)).D = mP k (dX k d) (2 ^ k)
  | 0, d => by
    refine Ps.ext fun i => ?_
    show (if i % 2 = 0 then 0 + d 0 * (if i + 1 = 0 then (1 : El 16) else 0) else 0) = 0 + 0 * (xP 0 0).c i
    rw [if_neg (show ¬ i + 1 = 0 by omega), El.mul_zero, El.zero_mul]
    split <;> rfl
  | k + 1, d => by
    rw [Nat.pow_succ, Nat.mul_two, mP_half k d _ (Nat.le_refl _), mP_half k _ _ (Nat.le_refl _), Ps.D_add, Ps.D_mul, sP_D, Ps.mul_one, mP_D k d, mP_D k]
    have e1 : mP k (dX (k + 1) d) (2 ^ k) = mP k (dX k d) (2 ^ k) + mP k (fun j => d (2 ^ k + j)) (2 ^ k) := by
      rw [← mP_addf]
      refine mP_congr fun j hj => ?_
      show esum k _ + (if j.testBit k then 0 else d (j + 2 ^ k)) = esum k _ + d (2 ^ k + j)
      rw [Nat.testBit_lt_two_pow hj, Nat.add_comm j]; rfl
    have e2 : mP k (fun j => dX (k + 1) d (2 ^ k + j)) (2 ^ k) = mP k (dX k fun j => d (2 ^ k + j)) (2 ^ k) := by
      refine mP_congr fun j hj => ?_
      show esum k _ + (if (2 ^ k + j).testBit k then 0 else d (2 ^ k + j + 2 ^ k)) = esum k _
      rw [Nat.testBit_two_pow_add_eq, Nat.testBit_lt_two_pow hj]
      show esum k _ + 0 = _
      rw [El.add_zero]
      refine esum_congr fun i hi => ?_
      dsimp only
      rw [Nat.testBit_two_pow_add_gt hi, Nat.add_assoc]
    rw [e1, e2]
    refine Ps.ext fun t => ?_
    simp only [Ps.add_c]
    ac_rfl
theorem dX_stop {k i j : Nat} (d : Nat → El 16) (hj : j < 2 ^ k) (hi : i ≤ k) (h : 2 ^ k ≤ j + 2 ^ i) : esum i (fun u => if j.testBit u then 0 else d (j + 2 ^ u)) = dX k d j := by
  unfold dX
  obtain ⟨m, rfl⟩ : ∃ m, k = i + m := ⟨k - i, by omega⟩
  rw [esum_append, esum_zero (n := m), El.add_zero]
  intro u hu
  have hx : 2 ^ (i + m) - 1 - j < 2 ^ i := by omega
  have e := Nat.testBit_two_pow_sub_succ (x := 2 ^ (i + m) - 1 - j) (n := i + m) (by omega) (i + u)
  rw [show 2 ^ (i + m) - (2 ^ (i + m) - 1 - j + 1) = j by omega, Nat.testBit_lt_two_pow (Nat.lt_of_lt_of_le hx (Nat.pow_le_pow_right (by omega) (show i ≤ i + u by omega))), decide_eq_true (show i + u < i + m by omega)] at e
  rw [e]; rfl
theorem tln_dg_le {n : Nat} [Fd n] {l : List (El n)} {d : Nat} (h : Dg (co l) d) : tln l ≤ d := by
  rcases Nat.lt_or_ge d (tln l) with hlt | hge
  · exact absurd (h (tln l - 1) (by omega)) (tln_top l (tln l - 1) (by omega))
  · exact hge
end Go.Fw
