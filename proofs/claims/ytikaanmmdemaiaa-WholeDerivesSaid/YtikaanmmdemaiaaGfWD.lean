/- Powers of two; an element by its four digits. Plain maths. -/
import Derived.Test.YtikaanmmdemaiaaGfVD
import Derived.Test.YtikaanmmdemaiaaGfPD
set_option linter.all false
set_option linter.unusedVariables false
namespace Go.Fw
theorem and_pred_pow (k : Nat) : 2 ^ k &&& (2 ^ k - 1) = 0 := by
  rw [Nat.and_two_pow_sub_one_eq_mod, Nat.mod_self]
theorem pow_of_and : ∀ (m n : Nat), n ≤ m → n ≠ 0 → n &&& (n - 1) = 0 → ∃ k, n = 2 ^ k := by
  intro m
  induction m with
  | zero => intro n h h0; omega
  | succ m ih =>
    intro n hn h0 h
    by_cases h1 : n % 2 = 1
    · have e : n = 1 := by
        refine Classical.byContradiction fun hne => ?_
        have h3 := congrArg (fun z => z / 2) h
        simp only [Nat.zero_div] at h3
        rw [Nat.and_div_two, show (n - 1) / 2 = n / 2 by omega, Nat.and_self] at h3
        omega
      exact ⟨0, e⟩
    · have h3 := congrArg (fun z => z / 2) h
      simp only [Nat.zero_div] at h3
      rw [Nat.and_div_two, show (n - 1) / 2 = n / 2 - 1 by omega] at h3
      obtain ⟨k, hk⟩ := ih (n / 2) (by omega) (by omega) h3
      exact ⟨k + 1, by rw [Nat.pow_succ, ← hk]; omega⟩
/-- The element of a number -/
def eN (n : Nat) : El 16 := ⟨BitVec.ofNat 16 n⟩
theorem badd_and (m : BitVec 16) : BAdd (fun a : BitVec 16 => a &&& m) := fun a b => by
  apply BitVec.eq_of_getLsbD_eq; intro i hi
  simp only [BitVec.getLsbD_and, BitVec.getLsbD_xor]
  cases a.getLsbD i <;> cases b.getLsbD i <;> cases m.getLsbD i <;> rfl
theorem badd_shl (k : Nat) : BAdd (fun a : BitVec 16 => a <<< k) := fun a b => BitVec.shiftLeft_xor_distrib a b k
theorem digits (x : BitVec 16) : (x &&& 15#16) ^^^ (((x >>> 4) &&& 15#16) <<< 4) ^^^ (((x >>> 8) &&& 15#16) <<< 8) ^^^ ((x >>> 12) <<< 12) = x :=
  BAdd.ext (f := fun x => (x &&& 15#16) ^^^ (((x >>> 4) &&& 15#16) <<< 4) ^^^ (((x >>> 8) &&& 15#16) <<< 8) ^^^ ((x >>> 12) <<< 12))
    (BAdd.xor (BAdd.xor (BAdd.xor (badd_and _) (BAdd.comp (badd_shl 4) (BAdd.comp (badd_and _) (badd_shr 16 4)))) (BAdd.comp (badd_shl 8) (BAdd.comp (badd_and _) (badd_shr 16 8)))) (BAdd.comp (badd_shl 12) (badd_shr 16 12))) badd_id (by decide +kernel) x
/-- What the table of the n-th digit holds at x. -/
def want (c : El 16) (n x : Nat) : El 16 := c * eN (x <<< (4 * n))
end Go.Fw
