import Derived.Test.YtcbjabnnokjnpaaFwNT
set_option linter.all false
/- Numbers: what the program's operations on whole numbers come to, where nothing overflows. -/
set_option linter.unusedVariables false
set_option linter.unusedSimpArgs false
namespace Go.Fw
open Go

theorem wrap_64 (n : Nat) (h : n < 9223372036854775808) : IntKind.i64.wrap (n : Int) = (n : Int) := wrap64_id (by omega) (by omega)
theorem tmod_nat (a b : Nat) : (a : Int).tmod (b : Int) = ((a % b : Nat) : Int) := by simp [Int.tmod_eq_emod_of_nonneg]
end Go.Fw
