import Derived.Test.YtcbjabnnokjnpaaFwNM
set_option linter.all false
/- Numbers: what the program's operations on whole numbers come to, where nothing overflows. -/
set_option linter.unusedVariables false
set_option linter.unusedSimpArgs false
namespace Go.Fw
open Go

theorem wrap_u (k : IntKind) (hk : k.signed = false) (n : Nat) : k.wrap (n : Int) = ((n % 2 ^ k.bits : Nat) : Int) := by
  simp [IntKind.wrap, hk]
theorem wrap_u_id (k : IntKind) (hk : k.signed = false) (n : Nat) (h : n < 2 ^ k.bits) : k.wrap (n : Int) = (n : Int) := by
  rw [wrap_u k hk, Nat.mod_eq_of_lt h]
theorem wrap_64 (n : Nat) (h : n < 9223372036854775808) : IntKind.i64.wrap (n : Int) = (n : Int) := wrap64_id (by omega) (by omega)
theorem wrap_u8 (n : Nat) (h : n < 256) : IntKind.u8.wrap (n : Int) = (n : Int) := wrap_u_id .u8 rfl n (by simpa [IntKind.bits] using h)
theorem tdiv_nat (a b : Nat) : (a : Int).tdiv (b : Int) = ((a / b : Nat) : Int) := by simp [Int.tdiv_eq_ediv_of_nonneg]
theorem tmod_nat (a b : Nat) : (a : Int).tmod (b : Int) = ((a % b : Nat) : Int) := by simp [Int.tmod_eq_emod_of_nonneg]
end Go.Fw
