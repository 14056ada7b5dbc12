/- The basis X_j of layer 13 and its values. Plain maths. -/
import Derived.Test.YtcnabolainmaeaaGfFN
set_option linter.all false
set_option linter.unusedVariables false
namespace Go.Fw
/-- x -> x * x + x -/
def sq1 (x : El 16) : El 16 := x * x + x
/-- X_j at x: by the bits of j, the lowest first; k bits of them. -/
def xV : Nat → Nat → El 16 → El 16
  | 0, _, _ => 1
  | k + 1, j, x => (if j % 2 = 1 then x else 1) * xV k (j / 2) (sq1 x)
/-- The sum of the first n of g -/
def esum (n : Nat) (g : Nat → El 16) : El 16 := match n with | 0 => 0 | n + 1 => esum n g + g n
theorem esum_congr {n : Nat} {f g : Nat → El 16} (h : ∀ i, i < n → f i = g i) : esum n f = esum n g := by
  induction n with
  | zero => rfl
  | succ n ih => show esum n f + f n = esum n g + g n; rw [ih (fun i hi => h i (by omega)), h n (by omega)]
theorem esum_append (n m : Nat) (f : Nat → El 16) : esum (n + m) f = esum n f + esum m (fun i => f (n + i)) := by
  induction m with
  | zero => exact (El.add_zero _).symm
  | succ m ih => show esum (n + m) f + f (n + m) = esum n f + (esum m _ + f (n + m)); rw [ih]; ac_rfl
theorem esum_zero {n : Nat} {f : Nat → El 16} (h : ∀ i, i < n → f i = 0) : esum n f = 0 := by
  rw [esum_congr (g := fun _ => 0) h]
  induction n with
  | zero => rfl
  | succ n ih => show esum n _ + 0 = 0; rw [ih (fun i hi => h i (by omega)), El.add_zero]
/-- By pairs. -/
theorem esum_pairs (n : Nat) (f : Nat → El 16) : esum (2 * n) f = esum n (fun i => f (2 * i) + f (2 * i + 1)) := by
  induction n with
  | zero => rfl
  | succ n ih => show esum (2 * n) f + f (2 * n) + f (2 * n + 1) = _ + _; rw [ih]; exact El.add_assoc _ _ _
theorem xV_zero (k : Nat) (x : El 16) : xV k 0 x = 1 := by
  induction k generalizing x with
  | zero => rfl
  | succ k ih => show (if 0 % 2 = 1 then x else 1) * xV k (0 / 2) (sq1 x) = 1; rw [if_neg (by decide), Nat.zero_div, ih, El.mul_one]
/-- The value at x of the sum of f j X_j, j below n (at most 2^k). -/
def evX (k n : Nat) (f : Nat → El 16) (x : El 16) : El 16 := esum n fun j => f j * xV k j x
/-- The lowest bits first. -/
theorem evX_low (k m : Nat) (f : Nat → El 16) (x : El 16) : evX (k + 1) (2 * m) f x = evX k m (fun t => f (2 * t) + x * f (2 * t + 1)) (sq1 x) := by
  unfold evX
  rw [esum_pairs]
  refine esum_congr fun t _ => ?_
  show f (2 * t) * ((if (2 * t) % 2 = 1 then x else 1) * xV k (2 * t / 2) (sq1 x)) + f (2 * t + 1) * ((if (2 * t + 1) % 2 = 1 then x else 1) * xV k ((2 * t + 1) / 2) (sq1 x)) = _
  rw [if_neg (by omega), if_pos (by omega), show 2 * t / 2 = t by omega, show (2 * t + 1) / 2 = t by omega, El.one_mul, El.add_mul]
  ac_rfl
end Go.Fw
