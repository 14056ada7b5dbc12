import Derived.Test.YtbaljbadlfopgaaFwRW
set_option linter.all false
/- Numbers without overflow, as rules with conditions. -/
set_option linter.unusedVariables false
namespace Go.Fw
open Go
theorem w_add (a b : Nat) (h : a + b < 9223372036854775808) : IntKind.i64.wrap ((a : Int) + (b : Int)) = ((a + b : Nat) : Int) := by rw [← wrap_64 (a + b) h]; rfl
theorem w_addl (a k : Nat) (h : a + @OfNat.ofNat Nat k _ < 9223372036854775808) : IntKind.i64.wrap ((a : Int) + no_index (@OfNat.ofNat Int k _)) = ((a + @OfNat.ofNat Nat k _ : Nat) : Int) := wrap_64 (a + k) h
theorem w_sub (a b : Nat) (hb : b ≤ a) (h : a < 9223372036854775808) : IntKind.i64.wrap ((a : Int) - (b : Int)) = ((a - b : Nat) : Int) := by rw [wrap_id (by omega) (by omega)]; omega
theorem w_subl (a k : Nat) (hb : @OfNat.ofNat Nat k _ ≤ a) (h : a < 9223372036854775808) : IntKind.i64.wrap ((a : Int) - no_index (@OfNat.ofNat Int k _)) = ((a - @OfNat.ofNat Nat k _ : Nat) : Int) := by
  have : @OfNat.ofNat Int k _ = (k : Int) := rfl
  have hb : k ≤ a := hb
  rw [this, wrap_id (by omega) (by omega)]
  show (a : Int) - (k : Int) = ((a - k : Nat) : Int)
  omega
theorem w_mull (a k : Nat) (h : @OfNat.ofNat Nat k _ * a < 9223372036854775808) : IntKind.i64.wrap (no_index (@OfNat.ofNat Int k _) * (a : Int)) = ((@OfNat.ofNat Nat k _ * a : Nat) : Int) := wrap_64 (k * a) h
theorem w_mulr (a k : Nat) (h : a * @OfNat.ofNat Nat k _ < 9223372036854775808) : IntKind.i64.wrap ((a : Int) * no_index (@OfNat.ofNat Int k _)) = ((a * @OfNat.ofNat Nat k _ : Nat) : Int) := wrap_64 (a * k) h
theorem w_nat (a : Nat) (h : a < 9223372036854775808) : IntKind.i64.wrap (a : Int) = (a : Int) := wrap_64 a h
theorem undef_bool (b : Bool) : (undef = Value.bool b) = False := by simp [undef]
end Go.Fw
