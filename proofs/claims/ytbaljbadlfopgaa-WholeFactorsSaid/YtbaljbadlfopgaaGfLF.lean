import Derived.Test.YtbaljbadlfopgaaGfWF
set_option linter.all false
/- The values elsewhere of the polynomial that has given values on one coset. Plain maths. -/
set_option linter.unusedVariables false
namespace Go.Fw
theorem wel_inj {i j : Nat} (hi : i < 65536) (hj : j < 65536) (h : wel i = wel j) : i = j := by
  have := congrArg (fun e : El 16 => bix e.v) h
  simp only [wel, bix_w] at this
  have := congrArg BitVec.toNat this
  simpa [Nat.mod_eq_of_lt hi, Nat.mod_eq_of_lt hj] using this
theorem wel_ne {i j : Nat} (hi : i < 65536) (hj : j < 65536) (h : i ≠ j) : wel i + wel j ≠ 0 := fun e => h (wel_inj hi hj (El.eq_of_add e))
end Go.Fw
