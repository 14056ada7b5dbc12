import Derived.Test.YtcnabolainmaeaaGfLL
set_option linter.all false
/- Derivatives, and the products of linear factors. Plain maths. -/
set_option linter.unusedVariables false
set_option linter.unusedSectionVars false
namespace Go.Fw
variable {n : Nat}
def Ps.e (p : Nat) (f : Ps n) : Ps n := ⟨fun k => if (k + p) % 2 = 1 then f.c k else 0⟩
variable [F : Fd n]
theorem Dg.D {f : Ps n} {d : Nat} (h : Dg f d) : Dg f.D d := fun i hi => by
  show (if i % 2 = 0 then f.c (i + 1) else 0) = 0
  rw [h (i + 1) (by omega)]; split <;> rfl
theorem Dg.one : Dg (1 : Ps n) 1 := fun i hi => by show (if i = 0 then (1 : El n) else 0) = 0; rw [if_neg (by omega)]
end Go.Fw

/- The polynomials s_i and X_j in powers of x. Plain maths. -/
set_option linter.unusedVariables false
namespace Go.Fw
/-- The coefficient of x^(2^t) in s_i. -/
def lc : Nat → Nat → El 16
  | 0, t => if t = 0 then 1 else 0
  | i + 1, t => lc i t + match t with | 0 => 0 | t + 1 => lc i t * lc i t
end Go.Fw

/- Lists in the basis X_j as polynomials; the derivative in that basis; s_i as a product over its zeros. Plain maths. -/
set_option linter.unusedVariables false
namespace Go.Fw
theorem pow_le16' {k : Nat} (h : k ≤ 16) : 2 ^ k ≤ 65536 := by have : 2 ^ k ≤ 2 ^ 16 := Nat.pow_le_pow_right (by omega) h; omega
theorem and_pow (n i : Nat) : n &&& 2 ^ i = if n.testBit i then 2 ^ i else 0 := by
  refine Nat.eq_of_testBit_eq fun t => ?_
  rw [Nat.testBit_and, Nat.testBit_two_pow]
  by_cases h : i = t
  · subst h
    by_cases hb : n.testBit i = true
    · rw [if_pos hb, hb, Nat.testBit_two_pow]; simp
    · rw [if_neg hb]; simp at hb; simp [hb]
  · split
    · rw [Nat.testBit_two_pow]
      simp [h]
    · simp [h]
theorem pow_add_xor {i m : Nat} (h : m < 2 ^ i) : 2 ^ i + m = 2 ^ i ^^^ m := by
  refine Nat.eq_of_testBit_eq fun t => ?_
  rw [Nat.testBit_xor, Nat.testBit_two_pow]
  by_cases ht : t = i
  · subst ht
    rw [Nat.testBit_two_pow_add_eq, Nat.testBit_lt_two_pow h]
    simp
  · rcases Nat.lt_or_gt_of_ne ht with hl | hg
    · rw [Nat.testBit_two_pow_add_gt hl]
      simp [show i ≠ t by omega]
    · have h1 : 2 ^ i + m < 2 ^ t := Nat.lt_of_lt_of_le (show 2 ^ i + m < 2 ^ (i + 1) by rw [Nat.pow_succ]; omega) (Nat.pow_le_pow_right (by omega) hg)
      rw [Nat.testBit_lt_two_pow h1, Nat.testBit_lt_two_pow (Nat.lt_of_lt_of_le h (Nat.pow_le_pow_right (by omega) (by omega)))]
      simp [show i ≠ t by omega]
theorem wel_pow_add {i m : Nat} (h : m < 2 ^ i) : wel (2 ^ i + m) = wel (2 ^ i) + wel m := by rw [pow_add_xor h, wel_xor]
/-- The product of all x + w(j), j below n. -/
def pV : Nat → El 16 → El 16
  | 0, _ => 1
  | n + 1, x => pV n x * (x + wel n)
theorem pV_two (i : Nat) (x : El 16) : ∀ m, m ≤ 2 ^ i → pV (2 ^ i + m) x = pV (2 ^ i) x * pV m (x + wel (2 ^ i))
  | 0, _ => (El.mul_one _).symm
  | m + 1, h => by
    show pV (2 ^ i + m) x * (x + wel (2 ^ i + m)) = pV (2 ^ i) x * (pV m (x + wel (2 ^ i)) * (x + wel (2 ^ i) + wel m))
    rw [pV_two i x m (by omega), wel_pow_add (by omega), El.mul_assoc, El.add_assoc]
theorem pV_sV : ∀ (i : Nat) (x : El 16), i ≤ 16 → pV (2 ^ i) x = sV i x
  | 0, x, _ => by
    show 1 * (x + wel 0) = x
    rw [wel_zero, El.one_mul, El.add_zero]
  | i + 1, x, h => by
    have h2 : 2 ^ i ≤ 2 ^ 15 := Nat.pow_le_pow_right (by omega) (by omega)
    rw [Nat.pow_succ, Nat.mul_two, pV_two i x _ (Nat.le_refl _), pV_sV i x (by omega), pV_sV i _ (by omega), sV_add, sV_wel i _ (by omega)]
    rw [Nat.shiftRight_eq_div_pow, Nat.div_self (Nat.two_pow_pos i), wel_one]
    show sV i x * (sV i x + 1) = sq1 (sV i x)
    rw [El.mul_add, El.mul_one]; rfl
/-! The derivative. -/
def dX (k : Nat) (d : Nat → El 16) (j : Nat) : El 16 := esum k fun i => if j.testBit i then 0 else d (j + 2 ^ i)
theorem dX_stop {k i j : Nat} (d : Nat → El 16) (hj : j < 2 ^ k) (hi : i ≤ k) (h : 2 ^ k ≤ j + 2 ^ i) : esum i (fun u => if j.testBit u then 0 else d (j + 2 ^ u)) = dX k d j := by
  unfold dX
  obtain ⟨m, rfl⟩ : ∃ m, k = i + m := ⟨k - i, by omega⟩
  rw [esum_append, esum_zero (n := m), El.add_zero]
  intro u hu
  have hx : 2 ^ (i + m) - 1 - j < 2 ^ i := by omega
  have e := Nat.testBit_two_pow_sub_succ (x := 2 ^ (i + m) - 1 - j) (n := i + m) (by omega) (i + u)
  rw [show 2 ^ (i + m) - (2 ^ (i + m) - 1 - j + 1) = j by omega, Nat.testBit_lt_two_pow (Nat.lt_of_lt_of_le hx (Nat.pow_le_pow_right (by omega) (show i ≤ i + u by omega))), decide_eq_true (show i + u < i + m by omega)] at e
  rw [e]; rfl
end Go.Fw
