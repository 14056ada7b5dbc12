/- Lists in the basis X_j as polynomials; the derivative in that basis; s_i as a product over its zeros. Plain maths. -/
import Derived.Test.YtcnabolainmaeaaGfMN
import Derived.Test.YtcnabolainmaeaaGfWN
set_option linter.all false
set_option linter.unusedVariables false
namespace Go.Fw
theorem pow_le16' {k : Nat} (h : k ≤ 16) : 2 ^ k ≤ 65536 := by have : 2 ^ k ≤ 2 ^ 16 := Nat.pow_le_pow_right (by omega) h; omega
theorem and_pow (n i : Nat) : n &&& 2 ^ i = if n.testBit i then 2 ^ i else 0 := by
  refine Nat.eq_of_testBit_eq fun t => ?_
  rw [Nat.testBit_and, Nat.testBit_two_pow]
  by_cases h : i = t
  · subst h
    by_cases hb : n.testBit i = true
    · rw [if_pos hb, hb, Nat.testBit_two_pow]; simp
    · rw [if_neg hb]; simp at hb; simp [hb]
  · split
    · rw [Nat.testBit_two_pow]
      simp [h]
    · simp [h]
/-- c times f -/
def smP (c : El 16) (f : Ps 16) : Ps 16 := ⟨fun t => c * f.c t⟩
/-- The sum of d j X_j, j below n. -/
def mP (k : Nat) (d : Nat → El 16) : Nat → Ps 16
  | 0 => 0
  | n + 1 => mP k d n + smP (d n) (xP k n)
theorem mP_congr {k : Nat} {d e : Nat → El 16} : ∀ {n}, (∀ j, j < n → d j = e j) → mP k d n = mP k e n
  | 0, _ => rfl
  | n + 1, h => by show mP k d n + _ = mP k e n + _; rw [mP_congr fun j hj => h j (by omega), h n (by omega)]
theorem zero_smP (f : Ps 16) : smP 0 f = 0 := Ps.ext fun t => El.zero_mul _
theorem mP_upd {k : Nat} {d e : Nat → El 16} {i : Nat} (h0 : d i = 0) (h : ∀ j, j ≠ i → e j = d j) : ∀ {n}, i < n → mP k e n = mP k d n + smP (e i) (xP k i)
  | n + 1, hi => by
    show mP k e n + smP (e n) _ = mP k d n + smP (d n) _ + _
    by_cases hn : i = n
    · subst hn
      rw [h0, zero_smP, Ps.add_zero, mP_congr fun j hj => h j (by omega)]
    · rw [mP_upd h0 h (by omega), h n (fun e => hn e.symm)]
      refine Ps.ext fun t => ?_
      simp only [Ps.add_c]
      ac_rfl
/-! The derivative. -/
def dX (k : Nat) (d : Nat → El 16) (j : Nat) : El 16 := esum k fun i => if j.testBit i then 0 else d (j + 2 ^ i)
theorem dX_stop {k i j : Nat} (d : Nat → El 16) (hj : j < 2 ^ k) (hi : i ≤ k) (h : 2 ^ k ≤ j + 2 ^ i) : esum i (fun u => if j.testBit u then 0 else d (j + 2 ^ u)) = dX k d j := by
  unfold dX
  obtain ⟨m, rfl⟩ : ∃ m, k = i + m := ⟨k - i, by omega⟩
  rw [esum_append, esum_zero (n := m), El.add_zero]
  intro u hu
  have hx : 2 ^ (i + m) - 1 - j < 2 ^ i := by omega
  have e := Nat.testBit_two_pow_sub_succ (x := 2 ^ (i + m) - 1 - j) (n := i + m) (by omega) (i + u)
  rw [show 2 ^ (i + m) - (2 ^ (i + m) - 1 - j + 1) = j by omega, Nat.testBit_lt_two_pow (Nat.lt_of_lt_of_le hx (Nat.pow_le_pow_right (by omega) (show i ≤ i + u by omega))), decide_eq_true (show i + u < i + m by omega)] at e
  rw [e]; rfl
theorem tln_dg_le {n : Nat} [Fd n] {l : List (El n)} {d : Nat} (h : Dg (co l) d) : tln l ≤ d := by
  rcases Nat.lt_or_ge d (tln l) with hlt | hge
  · exact absurd (h (tln l - 1) (by omega)) (tln_top l (tln l - 1) (by omega))
  · exact hge
end Go.Fw
