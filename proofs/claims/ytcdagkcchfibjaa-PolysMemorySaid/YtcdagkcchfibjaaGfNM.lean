import Derived.Test.YtcdagkcchfibjaaGfWM
import Derived.Test.YtcdagkcchfibjaaGfQM
set_option linter.all false
/- The values elsewhere of the polynomial that has given values on one coset. Plain maths. -/
set_option linter.unusedVariables false
namespace Go.Fw
end Go.Fw

/- The polynomials s_i and X_j in powers of x. Plain maths. -/
set_option linter.unusedVariables false
namespace Go.Fw
end Go.Fw

/- Lists in the basis X_j as polynomials; the derivative in that basis; s_i as a product over its zeros. Plain maths. -/
set_option linter.unusedVariables false
namespace Go.Fw
/-! The derivative. -/
end Go.Fw
