import Derived.Test.YtbaljbadlfopgaaGfGN
set_option linter.all false
/- Values of a polynomial, spoilt in places: what interpolates them, and what is near. -/
set_option linter.unusedVariables false
set_option linter.unusedSimpArgs false
namespace Go.Fw
open Go
section
variable {n : Nat} [F : Fd n]
/-- The places of what is not 0. -/
def wr (M : Nat → El n) (N : Nat) : List Nat := (List.range N).filter fun j => !decide (M j = 0)
end
end Go.Fw
