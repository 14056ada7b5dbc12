import Derived.Test.YtcdagkcchfibjaaGfNM
set_option linter.all false
/- Polynomials with as many zeros as coefficients; the vanishing polynomial of the first elements. Plain maths. -/
set_option linter.unusedVariables false
namespace Go.Fw
section
variable {n : Nat} [F : Fd n]
end
end Go.Fw

/- Newton's form: divided differences give the values back. -/
set_option linter.unusedVariables false
set_option linter.unusedSimpArgs false
namespace Go.Fw
open Go
section
variable {n : Nat} [F : Fd n]
/-- Divided differences, as the table is filled: entry i behind k rounds. -/
def dd (x y : Nat → El n) : Nat → Nat → El n
  | 0, i => y i
  | k + 1, i => (dd x y k i + dd x y k (i - 1)) * (x i + x (i - (k + 1))).inv
/-- The product over the points i, i + 1, .. (k of them). -/
def wX (x : Nat → El n) (i k : Nat) : Ps n := vps ((List.range k).map fun t => x (i + t))
def nw (x y : Nat → El n) (i : Nat) : Nat → Ps n
  | 0 => 0
  | k + 1 => nw x y i k + Ps.C (dd x y k (i + k)) * wX x i k
theorem wX_succ (x : Nat → El n) (i k : Nat) : wX x i (k + 1) = lin (x (i + k)) * wX x i k := by
  unfold wX
  rw [List.range_succ, List.map_append, List.map_singleton, vps_snoc]
theorem El.eq_of_add0 {a b : El n} (h : a + b = 0) : a = b := by
  have : a + b + b = 0 + b := by rw [h]
  rwa [El.add_assoc, El.add_self, El.add_zero, El.zero_add] at this
/-- Horner's road over the differences, from the top down. -/
theorem nw_horner (x y : Nat → El n) (m : Nat) (H : Nat → Ps n) (h0 : H m = 0) (hs : ∀ k, k < m → H k = H (k + 1) * lin (x k) + Ps.C (dd x y k k)) : ∀ d, d ≤ m → nw x y 0 m = nw x y 0 (m - d) + wX x 0 (m - d) * H (m - d)
  | 0, _ => by rw [Nat.sub_zero, h0, Ps.mul_zero, Ps.add_zero]
  | d + 1, h => by
    have ih := nw_horner x y m H h0 hs d (by omega)
    obtain ⟨k, hk⟩ : ∃ k, k = m - (d + 1) := ⟨_, rfl⟩
    rw [show m - d = k + 1 by omega] at ih
    rw [← hk, ih, hs k (by omega), wX_succ]
    show nw x y 0 k + Ps.C (dd x y k (0 + k)) * wX x 0 k + lin (x (0 + k)) * wX x 0 k * H (k + 1) = _
    rw [Nat.zero_add, Ps.mul_add]
    ac_rfl
theorem nw_all (x y : Nat → El n) (m : Nat) (H : Nat → Ps n) (h0 : H m = 0) (hs : ∀ k, k < m → H k = H (k + 1) * lin (x k) + Ps.C (dd x y k k)) : H 0 = nw x y 0 m := by
  have := nw_horner x y m H h0 hs m (Nat.le_refl _)
  rw [Nat.sub_self] at this
  rw [this, show wX x 0 0 = 1 from rfl, Ps.one_mul, show nw x y 0 0 = 0 from rfl, Ps.zero_add]
end
end Go.Fw
