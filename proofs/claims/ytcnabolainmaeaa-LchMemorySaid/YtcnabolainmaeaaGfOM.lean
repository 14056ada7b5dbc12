import Derived.Test.YtcnabolainmaeaaGfNM
set_option linter.all false
/- Polynomials with as many zeros as coefficients; the vanishing polynomial of the first elements. Plain maths. -/
set_option linter.unusedVariables false
namespace Go.Fw
section
variable {n : Nat} [F : Fd n]
end
end Go.Fw
