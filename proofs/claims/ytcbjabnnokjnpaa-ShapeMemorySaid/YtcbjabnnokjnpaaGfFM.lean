import Derived.Test.YtcbjabnnokjnpaaGfBM
set_option linter.all false
/- The additive transform, step by step, over indices. Plain maths. -/
set_option linter.unusedVariables false
namespace Go.Fw
section
variable {h i : Nat}
end
end Go.Fw
