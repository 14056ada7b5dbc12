/- The basis X_j of layer 13 and its values. Plain maths. -/
import Derived.Test.YtpmfeaajpjjfiaaGfFI
set_option linter.all false
set_option linter.unusedVariables false
namespace Go.Fw
/-- The sum of the first n of g -/
def esum (n : Nat) (g : Nat → El 16) : El 16 := match n with | 0 => 0 | n + 1 => esum n g + g n
end Go.Fw
