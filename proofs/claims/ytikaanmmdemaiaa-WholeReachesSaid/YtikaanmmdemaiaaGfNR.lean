/- Lists in the basis X_j as polynomials; the derivative in that basis; s_i as a product over its zeros. Plain maths. -/
import Derived.Test.YtikaanmmdemaiaaGfMR
import Derived.Test.YtikaanmmdemaiaaGfWR
set_option linter.all false
set_option linter.unusedVariables false
namespace Go.Fw
theorem pow_le16' {k : Nat} (h : k ≤ 16) : 2 ^ k ≤ 65536 := by have : 2 ^ k ≤ 2 ^ 16 := Nat.pow_le_pow_right (by omega) h; omega
/-! The derivative. -/
end Go.Fw
