import Derived.Test.YtbaljbadlfopgaaGfXN
import Derived.Test.YtbaljbadlfopgaaGfSN
import Derived.Test.YtbaljbadlfopgaaGfEN
set_option linter.all false
/- Lagrange's form: the product of all X + x but one; two interpolations of the same values are one. -/
set_option linter.unusedVariables false
set_option linter.unusedSimpArgs false
namespace Go.Fw
open Go
section
variable {n : Nat} [F : Fd n]
end
end Go.Fw
