import Derived.Test.YtcnabolainmaeaaFwPL
import Derived.Test.YtcnabolainmaeaaGfBL
set_option linter.all false
/- Numbers as polynomials over GF(2), and what they are in the field. Plain maths. -/
set_option linter.unusedVariables false
namespace Go.Fw
/-- The product without carries. -/
def cl (c x : Nat) : Nat := if h : c = 0 then 0 else (if c % 2 = 1 then x else 0) ^^^ (2 * cl (c / 2) x)
termination_by c
decreasing_by omega
end Go.Fw
