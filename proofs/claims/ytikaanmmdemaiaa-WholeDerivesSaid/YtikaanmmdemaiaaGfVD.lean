/- The basis X_j of layer 13 and its values. Plain maths. -/
import Derived.Test.YtikaanmmdemaiaaGfFD
set_option linter.all false
set_option linter.unusedVariables false
namespace Go.Fw
/-- The sum of the first n of g -/
def esum (n : Nat) (g : Nat → El 16) : El 16 := match n with | 0 => 0 | n + 1 => esum n g + g n
theorem esum_congr {n : Nat} {f g : Nat → El 16} (h : ∀ i, i < n → f i = g i) : esum n f = esum n g := by
  induction n with
  | zero => rfl
  | succ n ih => show esum n f + f n = esum n g + g n; rw [ih (fun i hi => h i (by omega)), h n (by omega)]
theorem esum_append (n m : Nat) (f : Nat → El 16) : esum (n + m) f = esum n f + esum m (fun i => f (n + i)) := by
  induction m with
  | zero => exact (El.add_zero _).symm
  | succ m ih => show esum (n + m) f + f (n + m) = esum n f + (esum m _ + f (n + m)); rw [ih]; ac_rfl
theorem esum_zero {n : Nat} {f : Nat → El 16} (h : ∀ i, i < n → f i = 0) : esum n f = 0 := by
  rw [esum_congr (g := fun _ => 0) h]
  induction n with
  | zero => rfl
  | succ n ih => show esum n _ + 0 = 0; rw [ih (fun i hi => h i (by omega)), El.add_zero]
end Go.Fw
