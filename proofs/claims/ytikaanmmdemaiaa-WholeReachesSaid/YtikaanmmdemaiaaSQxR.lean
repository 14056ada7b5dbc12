import Derived.Test.YtikaanmmdemaiaaProg
import Derived.Test.YtikaanmmdemaiaaFwTR
import Derived.Test.YtikaanmmdemaiaaSQtR
import Derived.Test.YtikaanmmdemaiaaSQ7R
import Derived.Test.YtikaanmmdemaiaaFwVR
set_option linter.all false
set_option linter.unusedVariables false
set_option linter.unusedSimpArgs false
set_option maxRecDepth 100000
set_option maxHeartbeats 1000000
namespace Go.Proofs.Ytikaanmmdemaiaa.Fw
open Go Go.Fw Go.Proofs
attribute [local irreducible] stepI
end Go.Proofs.Ytikaanmmdemaiaa.Fw
namespace Go.Proofs.Ytikaanmmdemaiaa.Fw
open Go Go.Fw
theorem wrap_u64_rng (n : Int) : ∃ z : Nat, IntKind.u64.wrap n = (z : Int) ∧ z < 18446744073709551616 := by
  have h1 : 0 ≤ n % 18446744073709551616 := Int.emod_nonneg _ (by decide)
  have h2 : n % 18446744073709551616 < 18446744073709551616 := Int.emod_lt_of_pos _ (by decide)
  have e : IntKind.u64.wrap n = n % 18446744073709551616 := by
    show (if (false && decide (n % 18446744073709551616 ≥ 9223372036854775808)) = true then n % 18446744073709551616 - 18446744073709551616 else n % 18446744073709551616) = _
    rfl
  exact ⟨(n % 18446744073709551616).toNat, by rw [e]; omega, by omega⟩
/-- A coset's beginning, by a number. -/
theorem cosetU {k : Nat} (hk : k ≤ 16) (z : Nat) :
    IntKind.i64.wrap ((65536 : Int).tdiv ((2 ^ k : Nat) : Int)) = ((2 ^ (16 - k) : Nat) : Int) ∧ IntKind.u64.wrap ((2 ^ (16 - k) : Nat) : Int) = ((2 ^ (16 - k) : Nat) : Int) ∧ (((2 ^ (16 - k) : Nat) : Int) ≠ 0) = True ∧ (((2 ^ k : Nat) : Int) ≠ 0) = True ∧
    (z : Int).tmod ((2 ^ (16 - k) : Nat) : Int) = ((z % 2 ^ (16 - k) : Nat) : Int) ∧ IntKind.i64.wrap ((z % 2 ^ (16 - k) : Nat) : Int) = ((z % 2 ^ (16 - k) : Nat) : Int) ∧ IntKind.i64.wrap (((z % 2 ^ (16 - k) : Nat) : Int) * ((2 ^ k : Nat) : Int)) = ((z % 2 ^ (16 - k) * 2 ^ k : Nat) : Int) ∧
    (z % 2 ^ (16 - k) * 2 ^ k) % 2 ^ k = 0 ∧ z % 2 ^ (16 - k) * 2 ^ k + 2 ^ k ≤ 65536 := by
  have hp := Nat.two_pow_pos k
  have hp16 := pow_le16' hk
  have hc0 := Nat.two_pow_pos (16 - k)
  have hc : 2 ^ (16 - k) * 2 ^ k = 65536 := by rw [← Nat.pow_add, show 16 - k + k = 16 by omega]
  have hc16 : 2 ^ (16 - k) ≤ 65536 := by have : 2 ^ (16 - k) ≤ 2 ^ 16 := Nat.pow_le_pow_right (by omega) (by omega); omega
  have e1 : IntKind.i64.wrap ((65536 : Int).tdiv ((2 ^ k : Nat) : Int)) = ((2 ^ (16 - k) : Nat) : Int) := by
    rw [show (65536 : Int) = ((65536 : Nat) : Int) from rfl, tdiv_nat, ← hc, Nat.mul_div_cancel _ hp, wrap_64 _ (by omega)]
  generalize hC : 2 ^ (16 - k) = c at *
  have hlt : z % c < c := Nat.mod_lt _ hc0
  have hm : (z % c) * 2 ^ k + 2 ^ k ≤ 65536 := by
    rw [← hc, show z % c * 2 ^ k + 2 ^ k = (z % c + 1) * 2 ^ k by rw [Nat.add_mul, Nat.one_mul]]
    exact Nat.mul_le_mul_right _ hlt
  exact ⟨e1, wrap_u64 _ (by omega), eq_true (by omega), eq_true (by omega), tmod_nat _ _, wrap_64 _ (by omega), w_mul _ _ (by omega), Nat.mul_mod_left _ _, hm⟩
end Go.Proofs.Ytikaanmmdemaiaa.Fw
