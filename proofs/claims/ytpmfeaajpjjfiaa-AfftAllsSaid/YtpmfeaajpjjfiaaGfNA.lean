import Derived.Test.YtpmfeaajpjjfiaaGfLA
set_option linter.all false
/- Derivatives, and the products of linear factors. Plain maths. -/
set_option linter.unusedVariables false
set_option linter.unusedSectionVars false
namespace Go.Fw
variable {n : Nat}
def Ps.e (p : Nat) (f : Ps n) : Ps n := ⟨fun k => if (k + p) % 2 = 1 then f.c k else 0⟩
variable [F : Fd n]
theorem Dg.D {f : Ps n} {d : Nat} (h : Dg f d) : Dg f.D d := fun i hi => by
  show (if i % 2 = 0 then f.c (i + 1) else 0) = 0
  rw [h (i + 1) (by omega)]; split <;> rfl
theorem Dg.one : Dg (1 : Ps n) 1 := fun i hi => by show (if i = 0 then (1 : El n) else 0) = 0; rw [if_neg (by omega)]
end Go.Fw

/- The polynomials s_i and X_j in powers of x. Plain maths. -/
set_option linter.unusedVariables false
namespace Go.Fw
/-- The coefficient of x^(2^t) in s_i. -/
def lc : Nat → Nat → El 16
  | 0, t => if t = 0 then 1 else 0
  | i + 1, t => lc i t + match t with | 0 => 0 | t + 1 => lc i t * lc i t
end Go.Fw

/- Lists in the basis X_j as polynomials; the derivative in that basis; s_i as a product over its zeros. Plain maths. -/
set_option linter.unusedVariables false
namespace Go.Fw
theorem pow_le16' {k : Nat} (h : k ≤ 16) : 2 ^ k ≤ 65536 := by have : 2 ^ k ≤ 2 ^ 16 := Nat.pow_le_pow_right (by omega) h; omega
theorem pow_add_xor {i m : Nat} (h : m < 2 ^ i) : 2 ^ i + m = 2 ^ i ^^^ m := by
  refine Nat.eq_of_testBit_eq fun t => ?_
  rw [Nat.testBit_xor, Nat.testBit_two_pow]
  by_cases ht : t = i
  · subst ht
    rw [Nat.testBit_two_pow_add_eq, Nat.testBit_lt_two_pow h]
    simp
  · rcases Nat.lt_or_gt_of_ne ht with hl | hg
    · rw [Nat.testBit_two_pow_add_gt hl]
      simp [show i ≠ t by omega]
    · have h1 : 2 ^ i + m < 2 ^ t := Nat.lt_of_lt_of_le (show 2 ^ i + m < 2 ^ (i + 1) by rw [Nat.pow_succ]; omega) (Nat.pow_le_pow_right (by omega) hg)
      rw [Nat.testBit_lt_two_pow h1, Nat.testBit_lt_two_pow (Nat.lt_of_lt_of_le h (Nat.pow_le_pow_right (by omega) (by omega)))]
      simp [show i ≠ t by omega]
theorem wel_pow_add {i m : Nat} (h : m < 2 ^ i) : wel (2 ^ i + m) = wel (2 ^ i) + wel m := by rw [pow_add_xor h, wel_xor]
/-! The derivative. -/
end Go.Fw
