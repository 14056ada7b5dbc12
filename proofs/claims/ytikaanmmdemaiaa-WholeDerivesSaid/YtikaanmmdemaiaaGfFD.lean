/- The additive transform, step by step, over indices. Plain maths. -/
import Derived.Test.YtikaanmmdemaiaaGfBD
set_option linter.all false
set_option linter.unusedVariables false
namespace Go.Fw
section
variable {h i : Nat}
end
end Go.Fw
