import Derived.Test.YtbaljbadlfopgaaGfML
set_option linter.all false
/- Remainders by a linear factor. Plain maths. -/
set_option linter.unusedVariables false
set_option linter.unusedSectionVars false
namespace Go.Fw
variable {n : Nat} [F : Fd n]
end Go.Fw
