import Derived.Test.YtikaanmmdemaiaaProg
import Derived.Test.YtikaanmmdemaiaaFwTT
import Derived.Test.YtikaanmmdemaiaaSQ5T
set_option linter.all false
set_option linter.unusedVariables false
set_option linter.unusedSimpArgs false
set_option maxRecDepth 100000
set_option maxHeartbeats 1000000
namespace Go.Proofs.Ytikaanmmdemaiaa.Fw
open Go Go.Fw Go.Proofs
attribute [local irreducible] stepI
end Go.Proofs.Ytikaanmmdemaiaa.Fw
namespace Go.Proofs.Ytikaanmmdemaiaa.Fw
open Go Go.Fw
theorem pow2_inj {a b : Nat} (h : 2 ^ a = 2 ^ b) : a = b := by
  rcases Nat.lt_trichotomy a b with h1 | h1 | h1
  · have := Nat.pow_lt_pow_right (show 1 < 2 by omega) h1; omega
  · exact h1
  · have := Nat.pow_lt_pow_right (show 1 < 2 by omega) h1; omega
end Go.Proofs.Ytikaanmmdemaiaa.Fw
