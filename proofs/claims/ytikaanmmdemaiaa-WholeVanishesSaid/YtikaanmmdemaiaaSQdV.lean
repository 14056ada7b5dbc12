import Derived.Test.YtikaanmmdemaiaaProg
import Derived.Test.YtikaanmmdemaiaaFwTV
import Derived.Test.YtikaanmmdemaiaaSQvV
import Derived.Test.YtikaanmmdemaiaaSQcV
import Derived.Test.YtikaanmmdemaiaaFwZV
set_option linter.all false
set_option linter.unusedVariables false
set_option linter.unusedSimpArgs false
set_option maxRecDepth 100000
set_option maxHeartbeats 1000000
namespace Go.Proofs.Ytikaanmmdemaiaa.Fw
open Go Go.Fw Go.Proofs
attribute [local irreducible] stepI
end Go.Proofs.Ytikaanmmdemaiaa.Fw
namespace Go.Proofs.Ytikaanmmdemaiaa.Fw
open Go Go.Fw
theorem sP_list {i : Nat} {m : List (El 16)} (h : ∀ n, (co m).c n = if n ≠ 0 ∧ 2 ^ Nat.log2 n = n ∧ Nat.log2 n < i + 1 then lc i (Nat.log2 n) else 0) : co m = sP i := Ps.ext fun n => by
  rw [h n]
  by_cases hn : n ≠ 0 ∧ 2 ^ Nat.log2 n = n
  · by_cases hl : Nat.log2 n < i + 1
    · rw [if_pos ⟨hn.1, hn.2, hl⟩]
      show _ = if n ≠ 0 ∧ 2 ^ Nat.log2 n = n then lc i (Nat.log2 n) else 0
      rw [if_pos hn]
    · rw [if_neg (fun e => hl e.2.2)]
      refine (sP_dg i n ?_).symm
      have := Nat.pow_le_pow_right (show 0 < 2 by omega) (show i + 1 ≤ Nat.log2 n by omega)
      rw [hn.2, Nat.pow_succ] at this
      have := Nat.two_pow_pos i
      omega
  · rw [if_neg (fun e => hn ⟨e.1, e.2.1⟩)]
    show _ = if n ≠ 0 ∧ 2 ^ Nat.log2 n = n then lc i (Nat.log2 n) else 0
    rw [if_neg hn]
theorem shl_one (i : Nat) (hi : i ≤ 60) : shlV .i64 1 (i : Int) = ((2 ^ i : Nat) : Int) := by
  have h : 2 ^ i < 2 ^ 63 := Nat.pow_lt_pow_right (by omega) (by omega)
  have := shl_nat fits_i64 1 i (by show i ≤ 64; omega) (by rw [Nat.one_mul]; exact h)
  rw [Nat.one_shiftLeft] at this
  exact this
end Go.Proofs.Ytikaanmmdemaiaa.Fw
