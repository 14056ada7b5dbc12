/- Remainders by a linear factor. Plain maths. -/
import Derived.Test.YtikaanmmdemaiaaGfQR
set_option linter.all false
set_option linter.unusedVariables false
set_option linter.unusedSectionVars false
namespace Go.Fw
variable {n : Nat} [F : Fd n]
end Go.Fw
