/- The polynomials s_i and X_j in powers of x. Plain maths. -/
import Derived.Test.YtikaanmmdemaiaaGfLR
import Derived.Test.YtikaanmmdemaiaaGfQR
set_option linter.all false
set_option linter.unusedVariables false
namespace Go.Fw
end Go.Fw
