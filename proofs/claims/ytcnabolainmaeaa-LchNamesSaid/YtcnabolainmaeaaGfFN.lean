/- The additive transform, step by step, over indices. Plain maths. -/
import Derived.Test.YtcnabolainmaeaaGfBN
set_option linter.all false
set_option linter.unusedVariables false
namespace Go.Fw
/-- w(i) -/
def wel (i : Nat) : El 16 := ⟨bw (BitVec.ofNat 16 i)⟩
theorem wel_one : wel 1 = 1 := El.ext (by decide +kernel)
section
variable {h i : Nat}
end
end Go.Fw
