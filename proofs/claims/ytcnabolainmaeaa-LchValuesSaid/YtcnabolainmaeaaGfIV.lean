import Derived.Test.YtcnabolainmaeaaFwPV
import Derived.Test.YtcnabolainmaeaaGfBV
set_option linter.all false
/- Numbers as polynomials over GF(2), and what they are in the field. Plain maths. -/
set_option linter.unusedVariables false
namespace Go.Fw
end Go.Fw
