import Derived.Test.YtcdagkcchfibjaaGfMT
import Derived.Test.YtcdagkcchfibjaaGfWT
set_option linter.all false
/- Lists in the basis X_j as polynomials; the derivative in that basis; s_i as a product over its zeros. Plain maths. -/
set_option linter.unusedVariables false
namespace Go.Fw
/-! The derivative. -/
end Go.Fw
