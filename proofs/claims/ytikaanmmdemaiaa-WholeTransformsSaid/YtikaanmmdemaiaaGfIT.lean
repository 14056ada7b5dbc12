/- Numbers as polynomials over GF(2), and what they are in the field. Plain maths. -/
import Derived.Test.YtikaanmmdemaiaaFwPT
import Derived.Test.YtikaanmmdemaiaaGfBT
set_option linter.all false
set_option linter.unusedVariables false
namespace Go.Fw
end Go.Fw
