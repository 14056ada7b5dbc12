/- The basis X_j of layer 13 and its values. Plain maths. -/
import Derived.Test.YtikaanmmdemaiaaGfFV
set_option linter.all false
set_option linter.unusedVariables false
namespace Go.Fw
/-- x -> x * x + x -/
def sq1 (x : El 16) : El 16 := x * x + x
/-- s_i at x -/
def sV : Nat → El 16 → El 16
  | 0, x => x
  | i + 1, x => sq1 (sV i x)
theorem sV_wel (i j : Nat) (h : j < 65536) : sV i (wel j) = wel (j >>> i) := by
  induction i with
  | zero => rfl
  | succ i ih =>
    show sq1 (sV i (wel j)) = _
    rw [ih]
    have h2 : j >>> i < 65536 := by rw [Nat.shiftRight_eq_div_pow]; exact Nat.lt_of_le_of_lt (Nat.div_le_self _ _) h
    unfold sq1
    rw [wel_shr _ h2, ← Nat.shiftRight_add]
end Go.Fw
