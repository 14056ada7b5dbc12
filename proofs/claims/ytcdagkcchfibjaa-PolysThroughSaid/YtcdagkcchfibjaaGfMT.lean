import Derived.Test.YtcdagkcchfibjaaGfQT
set_option linter.all false
/- The polynomials s_i and X_j in powers of x. Plain maths. -/
set_option linter.unusedVariables false
namespace Go.Fw
end Go.Fw
