import Derived.Test.YtbaljbadlfopgaaGfMF
import Derived.Test.YtbaljbadlfopgaaGfWF
set_option linter.all false
/- Lists in the basis X_j as polynomials; the derivative in that basis; s_i as a product over its zeros. Plain maths. -/
set_option linter.unusedVariables false
namespace Go.Fw
theorem pow_le16' {k : Nat} (h : k ≤ 16) : 2 ^ k ≤ 65536 := by have : 2 ^ k ≤ 2 ^ 16 := Nat.pow_le_pow_right (by omega) h; omega
/-! The derivative. -/
theorem sP_D : ∀ i, (sP i).D = 1
  | 0 => by
    rw [sP_zero]
    refine Ps.ext fun k => ?_
    show (if k % 2 = 0 then (if k + 1 = 1 then (1 : El 16) else 0) else 0) = if k = 0 then 1 else 0
    by_cases h : k = 0
    · subst h; rfl
    · rw [if_neg h, if_neg (show ¬ k + 1 = 1 by omega)]; split <;> rfl
  | i + 1 => by
    rw [sP_succ, Ps.D_add, Ps.D_mul, sP_D i, Ps.one_mul, Ps.mul_one, Ps.add_self]
    exact Ps.ext fun k => El.zero_add _
end Go.Fw
