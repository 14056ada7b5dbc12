import Derived.Test.YtpmfeaajpjjfiaaGfWP
set_option linter.all false
/- The values elsewhere of the polynomial that has given values on one coset. Plain maths. -/
set_option linter.unusedVariables false
namespace Go.Fw
end Go.Fw
