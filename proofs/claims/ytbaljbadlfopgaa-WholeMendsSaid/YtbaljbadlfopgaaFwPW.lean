import Derived.Test.YtbaljbadlfopgaaFwNW
set_option linter.all false
/- Numbers: what the program's operations on whole numbers come to, where nothing overflows. -/
set_option linter.unusedVariables false
set_option linter.unusedSimpArgs false
namespace Go.Fw
open Go

theorem wrap_u (k : IntKind) (hk : k.signed = false) (n : Nat) : k.wrap (n : Int) = ((n % 2 ^ k.bits : Nat) : Int) := by
  simp [IntKind.wrap, hk]
theorem wrap_u_id (k : IntKind) (hk : k.signed = false) (n : Nat) (h : n < 2 ^ k.bits) : k.wrap (n : Int) = (n : Int) := by
  rw [wrap_u k hk, Nat.mod_eq_of_lt h]
theorem wrap_64 (n : Nat) (h : n < 9223372036854775808) : IntKind.i64.wrap (n : Int) = (n : Int) := wrap64_id (by omega) (by omega)
theorem wrap_u64 (n : Nat) (h : n < 18446744073709551616) : IntKind.u64.wrap (n : Int) = (n : Int) := wrap_u_id .u64 rfl n (by simpa [IntKind.bits] using h)
theorem wrap_u16 (n : Nat) (h : n < 65536) : IntKind.u16.wrap (n : Int) = (n : Int) := wrap_u_id .u16 rfl n (by simpa [IntKind.bits] using h)
theorem wrap_u8 (n : Nat) (h : n < 256) : IntKind.u8.wrap (n : Int) = (n : Int) := wrap_u_id .u8 rfl n (by simpa [IntKind.bits] using h)
theorem wrap_u8m (n : Nat) : IntKind.u8.wrap (n : Int) = ((n % 256 : Nat) : Int) := wrap_u .u8 rfl n

theorem ofInt_nat (m n : Nat) (h : n < 2 ^ m) : (BitVec.ofInt m (n : Int)).toNat = n := by
  simp [BitVec.toNat_ofInt]
  exact Nat.mod_eq_of_lt h
/-- The wrap leaves every natural number below m alone. -/
def Fits (k : IntKind) (m : Nat) : Prop := m ≤ k.bits ∧ ∀ n : Nat, n < 2 ^ m → k.wrap (n : Int) = (n : Int)
theorem fits_i64 : Fits .i64 63 := ⟨by decide, fun n h => wrap_64 n (by simpa using h)⟩
theorem fits_u64 : Fits .u64 64 := ⟨by decide, fun n h => wrap_u64 n (by simpa using h)⟩
theorem fits_u8 : Fits .u8 8 := ⟨by decide, fun n h => wrap_u8 n (by simpa using h)⟩
theorem Fits.lt {k : IntKind} {m n : Nat} (h : Fits k m) (hn : n < 2 ^ m) : n < 2 ^ k.bits := Nat.lt_of_lt_of_le hn (Nat.pow_le_pow_right (by omega) h.1)
theorem bits_xor {k : IntKind} {m : Nat} (hf : Fits k m) {a b : Nat} (ha : a < 2 ^ m) (hb : b < 2 ^ m) : bitsOp .xor k (a : Int) (b : Int) = ((a ^^^ b : Nat) : Int) := by
  simp only [bitsOp, BitVec.toNat_xor]
  rw [ofInt_nat _ _ (hf.lt ha), ofInt_nat _ _ (hf.lt hb), hf.2 _ (Nat.xor_lt_two_pow ha hb)]
theorem bits_and {k : IntKind} {m : Nat} (hf : Fits k m) {a b : Nat} (ha : a < 2 ^ m) (hb : b < 2 ^ m) : bitsOp .and k (a : Int) (b : Int) = ((a &&& b : Nat) : Int) := by
  simp only [bitsOp, BitVec.toNat_and]
  rw [ofInt_nat _ _ (hf.lt ha), ofInt_nat _ _ (hf.lt hb), hf.2 _ (Nat.and_lt_two_pow _ hb)]
theorem bits_or {k : IntKind} {m : Nat} (hf : Fits k m) {a b : Nat} (ha : a < 2 ^ m) (hb : b < 2 ^ m) : bitsOp .or k (a : Int) (b : Int) = ((a ||| b : Nat) : Int) := by
  simp only [bitsOp, BitVec.toNat_or]
  rw [ofInt_nat _ _ (hf.lt ha), ofInt_nat _ _ (hf.lt hb), hf.2 _ (Nat.or_lt_two_pow ha hb)]
theorem shr_nat (k : IntKind) (a n : Nat) (hn : n ≤ k.bits) : shrV k (a : Int) (n : Int) = ((a >>> n : Nat) : Int) := by
  simp only [shrV, Int.toNat_natCast, Nat.min_eq_left hn, Nat.shiftRight_eq_div_pow]
  rw [show ((2 : Int) ^ n) = ((2 ^ n : Nat) : Int) by simp]
  rw [Int.fdiv_eq_ediv_of_nonneg _ (Int.natCast_nonneg _)]
  rfl
theorem shl_nat {k : IntKind} {m : Nat} (hf : Fits k m) (a n : Nat) (hn : n ≤ k.bits) (h : a * 2 ^ n < 2 ^ m) : shlV k (a : Int) (n : Int) = ((a <<< n : Nat) : Int) := by
  simp only [shlV, Int.toNat_natCast, Nat.min_eq_left hn, Nat.shiftLeft_eq]
  rw [show (a : Int) * (2 : Int) ^ n = ((a * 2 ^ n : Nat) : Int) by simp]
  exact hf.2 _ h
theorem tmod_nat (a b : Nat) : (a : Int).tmod (b : Int) = ((a % b : Nat) : Int) := by simp [Int.tmod_eq_emod_of_nonneg]
theorem and_one_shr (a n : Nat) : (a >>> n) &&& 1 = if a.testBit n then 1 else 0 := by
  rw [Nat.and_one_is_mod, Nat.testBit, Nat.shiftRight_eq_div_pow]
  have h2 : 1 &&& (a / 2 ^ n) = (a / 2 ^ n) % 2 := by rw [Nat.and_comm, Nat.and_one_is_mod]
  have h3 : a / 2 ^ n % 2 = 0 ∨ a / 2 ^ n % 2 = 1 := by omega
  rcases h3 with h3 | h3 <;> simp [h2, h3, Nat.shiftRight_eq_div_pow]

/-- The number of binary digits. -/
def blen (n : Nat) : Nat := if n = 0 then 0 else Nat.log2 n + 1
theorem blen_lt {n m : Nat} (h : n < 2 ^ m) : blen n ≤ m := by
  unfold blen
  split
  · omega
  · rename_i h0; have := (Nat.log2_lt h0).2 h; omega
theorem lt_blen (n : Nat) : n < 2 ^ blen n := by
  unfold blen
  split
  · rename_i h; rw [h]; exact Nat.one_pos
  · rename_i h; exact Nat.lt_log2_self
theorem blen_le {n m : Nat} (h : 2 ^ m ≤ n) : m < blen n := by
  rcases Nat.lt_or_ge m (blen n) with h1 | h1
  · exact h1
  · exact absurd (lt_blen n) (Nat.not_lt.2 (Nat.le_trans (Nat.pow_le_pow_right (by omega) h1) h))
theorem blen_eq {n m : Nat} (h1 : 2 ^ m ≤ n) (h2 : n < 2 ^ (m + 1)) : blen n = m + 1 := by
  have := blen_le h1; have := blen_lt h2; omega
theorem blen_zero : blen 0 = 0 := rfl
theorem blen_pos {n : Nat} (h : n ≠ 0) : 2 ^ (blen n - 1) ≤ n := by
  unfold blen
  rw [if_neg h]
  exact Nat.log2_self_le h
theorem blen_shr {n k : Nat} (h : k ≤ blen n) : blen (n >>> k) = blen n - k := by
  rcases Nat.eq_zero_or_pos n with rfl | h0
  · simp [blen_zero]
  · have hp := blen_pos (n := n) (by omega)
    have hl := lt_blen n
    have hb : 0 < blen n := by unfold blen; rw [if_neg (by omega)]; omega
    rcases Nat.eq_or_lt_of_le h with rfl | hlt
    · rw [Nat.shiftRight_eq_div_pow, Nat.div_eq_of_lt hl]; simp [blen_zero]
    · have : blen n - k = (blen n - k - 1) + 1 := by omega
      rw [this]
      rw [Nat.shiftRight_eq_div_pow]
      refine blen_eq ?_ ?_
      · rw [Nat.le_div_iff_mul_le (Nat.two_pow_pos k), ← Nat.pow_add]
        rw [show blen n - k - 1 + k = blen n - 1 by omega]; exact hp
      · rw [Nat.div_lt_iff_lt_mul (Nat.two_pow_pos k), ← Nat.pow_add]
        rw [show blen n - k - 1 + 1 + k = blen n by omega]; exact hl
end Go.Fw
