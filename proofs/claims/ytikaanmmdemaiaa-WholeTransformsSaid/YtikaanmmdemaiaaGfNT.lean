/- Lists in the basis X_j as polynomials; the derivative in that basis; s_i as a product over its zeros. Plain maths. -/
import Derived.Test.YtikaanmmdemaiaaGfMT
import Derived.Test.YtikaanmmdemaiaaGfWT
set_option linter.all false
set_option linter.unusedVariables false
namespace Go.Fw
theorem pow_le16' {k : Nat} (h : k ≤ 16) : 2 ^ k ≤ 65536 := by have : 2 ^ k ≤ 2 ^ 16 := Nat.pow_le_pow_right (by omega) h; omega
/-- c times f -/
def smP (c : El 16) (f : Ps 16) : Ps 16 := ⟨fun t => c * f.c t⟩
/-- The sum of d j X_j, j below n. -/
def mP (k : Nat) (d : Nat → El 16) : Nat → Ps 16
  | 0 => 0
  | n + 1 => mP k d n + smP (d n) (xP k n)
theorem mP_ev {k : Nat} (d : Nat → El 16) (x : El 16) : ∀ n D, n ≤ 2 ^ k → n ≤ D → evn (mP k d n) x D = evX k n d x
  | 0, D, _, _ => evn_zero x D
  | n + 1, D, h, hD => by
    show evn (mP k d n + smP (d n) (xP k n)) x D = esum n _ + d n * xV k n x
    rw [evn_add, mP_ev d x n D (by omega) (by omega)]
    congr 1
    show evn (⟨fun t => d n * (xP k n).c t⟩ : Ps 16) x D = _
    rw [evn_smul, xP_ev x k n D (by omega) (by omega)]
theorem zero_smP (f : Ps 16) : smP 0 f = 0 := Ps.ext fun t => El.zero_mul _
/-! The derivative. -/
theorem tln_dg_le {n : Nat} [Fd n] {l : List (El n)} {d : Nat} (h : Dg (co l) d) : tln l ≤ d := by
  rcases Nat.lt_or_ge d (tln l) with hlt | hge
  · exact absurd (h (tln l - 1) (by omega)) (tln_top l (tln l - 1) (by omega))
  · exact hge
end Go.Fw
