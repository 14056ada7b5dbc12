/- The additive transform, step by step, over indices. Plain maths. -/
import Derived.Test.YtikaanmmdemaiaaGfBV
set_option linter.all false
set_option linter.unusedVariables false
namespace Go.Fw
/-- w(i) -/
def wel (i : Nat) : El 16 := ⟨bw (BitVec.ofNat 16 i)⟩
theorem wel_zero : wel 0 = 0 := El.ext (BAdd.zero badd_w)
theorem wel_shr (i : Nat) (h : i < 65536) : wel i * wel i + wel i = wel (i >>> 1) := El.ext (by
  show bmul r16 (bw (BitVec.ofNat 16 i)) (bw (BitVec.ofNat 16 i)) ^^^ bw (BitVec.ofNat 16 i) = bw (BitVec.ofNat 16 (i >>> 1))
  have := bs1_w (BitVec.ofNat 16 i)
  unfold bsq at this
  rw [this]
  congr 1
  apply BitVec.eq_of_toNat_eq
  simp [BitVec.toNat_ushiftRight, Nat.mod_eq_of_lt h]
  rw [Nat.mod_eq_of_lt]
  rw [Nat.shiftRight_eq_div_pow]; omega)
section
variable {h i : Nat}
end
end Go.Fw
