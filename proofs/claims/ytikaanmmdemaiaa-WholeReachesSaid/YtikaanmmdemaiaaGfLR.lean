/- The values elsewhere of the polynomial that has given values on one coset. Plain maths. -/
import Derived.Test.YtikaanmmdemaiaaGfWR
set_option linter.all false
set_option linter.unusedVariables false
namespace Go.Fw
end Go.Fw
