import Derived.Test.YtcnabolainmaeaaProg
import Derived.Test.YtcnabolainmaeaaFwTL
import Derived.Test.YtcnabolainmaeaaSS13vL
import Derived.Test.YtcnabolainmaeaaSS13cL
import Derived.Test.YtcnabolainmaeaaFwZL
set_option linter.all false
set_option linter.unusedVariables false
set_option linter.unusedSimpArgs false
set_option maxRecDepth 100000
set_option maxHeartbeats 1000000
namespace Go.Proofs.Ytcnabolainmaeaa.Fw
open Go Go.Fw Go.Proofs
attribute [local irreducible] stepI
end Go.Proofs.Ytcnabolainmaeaa.Fw
namespace Go.Proofs.Ytcnabolainmaeaa.Fw
open Go Go.Fw
theorem shl_one (i : Nat) (hi : i ≤ 60) : shlV .i64 1 (i : Int) = ((2 ^ i : Nat) : Int) := by
  have h : 2 ^ i < 2 ^ 63 := Nat.pow_lt_pow_right (by omega) (by omega)
  have := shl_nat fits_i64 1 i (by show i ≤ 64; omega) (by rw [Nat.one_mul]; exact h)
  rw [Nat.one_shiftLeft] at this
  exact this
end Go.Proofs.Ytcnabolainmaeaa.Fw
