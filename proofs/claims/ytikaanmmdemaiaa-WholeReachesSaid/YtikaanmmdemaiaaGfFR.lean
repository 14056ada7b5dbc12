/- The additive transform, step by step, over indices. Plain maths. -/
import Derived.Test.YtikaanmmdemaiaaGfBR
set_option linter.all false
set_option linter.unusedVariables false
namespace Go.Fw
/-- w(i) -/
def wel (i : Nat) : El 16 := ⟨bw (BitVec.ofNat 16 i)⟩
theorem wel_xor (i j : Nat) : wel (i ^^^ j) = wel i + wel j := El.ext (by
  show bw (BitVec.ofNat 16 (i ^^^ j)) = bw (BitVec.ofNat 16 i) ^^^ bw (BitVec.ofNat 16 j)
  rw [BitVec.ofNat_xor]; exact badd_w _ _)
theorem wel_one : wel 1 = 1 := El.ext (by decide +kernel)
theorem wel_shr (i : Nat) (h : i < 65536) : wel i * wel i + wel i = wel (i >>> 1) := El.ext (by
  show bmul r16 (bw (BitVec.ofNat 16 i)) (bw (BitVec.ofNat 16 i)) ^^^ bw (BitVec.ofNat 16 i) = bw (BitVec.ofNat 16 (i >>> 1))
  have := bs1_w (BitVec.ofNat 16 i)
  unfold bsq at this
  rw [this]
  congr 1
  apply BitVec.eq_of_toNat_eq
  simp [BitVec.toNat_ushiftRight, Nat.mod_eq_of_lt h]
  rw [Nat.mod_eq_of_lt]
  rw [Nat.shiftRight_eq_div_pow]; omega)
section
variable {h i : Nat}
theorem mod2h_low (hl : i % (2 * h) < h) : (i + h) % (2 * h) = i % (2 * h) + h := by
  have := Nat.div_add_mod i (2 * h)
  rw [show i + h = (i % (2 * h) + h) + 2 * h * (i / (2 * h)) by omega, Nat.add_mul_mod_self_left, Nat.mod_eq_of_lt (by omega)]
theorem mod2h_high (h0 : 0 < h) (hl : ¬ i % (2 * h) < h) : (i - h) % (2 * h) = i % (2 * h) - h ∧ h ≤ i := by
  have := Nat.div_add_mod i (2 * h)
  have hle : i % (2 * h) ≤ i := Nat.mod_le _ _
  have h2 := Nat.mod_lt i (show 0 < 2 * h by omega)
  refine ⟨?_, by omega⟩
  rw [show i - h = (i % (2 * h) - h) + 2 * h * (i / (2 * h)) by omega, Nat.add_mul_mod_self_left, Nat.mod_eq_of_lt (by omega)]
end
/-- One level forth: blocks of twice 2^t. -/
def bfn (t a : Nat) (f : Nat → El 16) (i : Nat) : El 16 :=
  if i % (2 * 2 ^ t) < 2 ^ t then f i + wel ((a + (i - i % (2 * 2 ^ t))) >>> t) * f (i + 2 ^ t)
  else f (i - 2 ^ t) + wel ((a + (i - i % (2 * 2 ^ t))) >>> t) * f i + f i
/-- One level back. -/
def bin' (t a : Nat) (f : Nat → El 16) (i : Nat) : El 16 :=
  if i % (2 * 2 ^ t) < 2 ^ t then f i + wel ((a + (i - i % (2 * 2 ^ t))) >>> t) * (f i + f (i + 2 ^ t)) else f (i - 2 ^ t) + f i
theorem bin_bfn (t a : Nat) (f : Nat → El 16) : bin' t a (bfn t a f) = f := funext fun i => by
  have h0 : 0 < 2 ^ t := Nat.two_pow_pos t
  unfold bin'
  by_cases hl : i % (2 * 2 ^ t) < 2 ^ t
  · have h1 := mod2h_low hl
    rw [if_pos hl]
    have e1 : bfn t a f i = f i + wel ((a + (i - i % (2 * 2 ^ t))) >>> t) * f (i + 2 ^ t) := by unfold bfn; rw [if_pos hl]
    have e2 : bfn t a f (i + 2 ^ t) = f i + wel ((a + (i - i % (2 * 2 ^ t))) >>> t) * f (i + 2 ^ t) + f (i + 2 ^ t) := by
      unfold bfn; rw [h1, if_neg (by omega), Nat.add_sub_cancel, show i + 2 ^ t - (i % (2 * 2 ^ t) + 2 ^ t) = i - i % (2 * 2 ^ t) by omega]
    rw [e1, e2, El.add_cancel_left, El.add_cancel]
  · obtain ⟨h1, h2⟩ := mod2h_high h0 hl
    rw [if_neg hl]
    have e1 : bfn t a f (i - 2 ^ t) = f (i - 2 ^ t) + wel ((a + (i - i % (2 * 2 ^ t))) >>> t) * f i := by
      unfold bfn; rw [h1, if_pos (by have := Nat.mod_lt i (show 0 < 2 * 2 ^ t by omega); omega), Nat.sub_add_cancel h2, show i - 2 ^ t - (i % (2 * 2 ^ t) - 2 ^ t) = i - i % (2 * 2 ^ t) by omega]
    have e2 : bfn t a f i = f (i - 2 ^ t) + wel ((a + (i - i % (2 * 2 ^ t))) >>> t) * f i + f i := by unfold bfn; rw [if_neg hl]
    rw [e1, e2, El.add_cancel_left]
theorem bfn_bin (t a : Nat) (f : Nat → El 16) : bfn t a (bin' t a f) = f := funext fun i => by
  have h0 : 0 < 2 ^ t := Nat.two_pow_pos t
  unfold bfn
  by_cases hl : i % (2 * 2 ^ t) < 2 ^ t
  · have h1 := mod2h_low hl
    rw [if_pos hl]
    have e1 : bin' t a f i = f i + wel ((a + (i - i % (2 * 2 ^ t))) >>> t) * (f i + f (i + 2 ^ t)) := by unfold bin'; rw [if_pos hl]
    have e2 : bin' t a f (i + 2 ^ t) = f i + f (i + 2 ^ t) := by unfold bin'; rw [h1, if_neg (by omega), Nat.add_sub_cancel]
    rw [e1, e2, El.add_cancel]
  · obtain ⟨h1, h2⟩ := mod2h_high h0 hl
    rw [if_neg hl]
    have e1 : bin' t a f (i - 2 ^ t) = f (i - 2 ^ t) + wel ((a + (i - i % (2 * 2 ^ t))) >>> t) * (f (i - 2 ^ t) + f i) := by
      unfold bin'; rw [h1, if_pos (by have := Nat.mod_lt i (show 0 < 2 * 2 ^ t by omega); omega), Nat.sub_add_cancel h2, show i - 2 ^ t - (i % (2 * 2 ^ t) - 2 ^ t) = i - i % (2 * 2 ^ t) by omega]
    have e2 : bin' t a f i = f (i - 2 ^ t) + f i := by unfold bin'; rw [if_neg hl]
    rw [e1, e2, El.add_cancel, El.add_cancel_left]
/-- k levels forth, the greatest first. -/
def itF (a : Nat) : Nat → (Nat → El 16) → Nat → El 16
  | 0, f => f
  | k + 1, f => itF a k (bfn k a f)
/-- k levels back, the least first. -/
def itI (a : Nat) : Nat → (Nat → El 16) → Nat → El 16
  | 0, f => f
  | k + 1, f => bin' k a (itI a k f)
theorem itI_itF (a : Nat) : ∀ (k : Nat) (f : Nat → El 16), itI a k (itF a k f) = f
  | 0, f => rfl
  | k + 1, f => by show bin' k a (itI a k (itF a k (bfn k a f))) = f; rw [itI_itF a k, bin_bfn]
theorem itF_itI (a : Nat) : ∀ (k : Nat) (f : Nat → El 16), itF a k (itI a k f) = f
  | 0, f => rfl
  | k + 1, f => by show itF a k (bfn k a (bin' k a (itI a k f))) = f; rw [bfn_bin, itF_itI a k]
/-- What lies in one block hangs on that block alone. -/
theorem bfn_loc {t a n : Nat} {f g : Nat → El 16} (hn : n % (2 * 2 ^ t) = 0) (h : ∀ i, i < n → f i = g i) : ∀ i, i < n → bfn t a f i = bfn t a g i := by
  intro i hi
  have h0 : 0 < 2 ^ t := Nat.two_pow_pos t
  have hd := Nat.div_add_mod n (2 * 2 ^ t)
  have hd2 := Nat.div_add_mod i (2 * 2 ^ t)
  have hq : i / (2 * 2 ^ t) < n / (2 * 2 ^ t) := by
    rw [hn, Nat.add_zero] at hd
    rw [← hd] at hi
    exact (Nat.div_lt_iff_lt_mul (by omega)).2 (by rw [Nat.mul_comm]; exact hi)
  have hm : 2 * 2 ^ t * (i / (2 * 2 ^ t)) + 2 * 2 ^ t ≤ 2 * 2 ^ t * (n / (2 * 2 ^ t)) := by
    rw [← Nat.mul_succ]; exact Nat.mul_le_mul_left _ hq
  unfold bfn
  by_cases hl : i % (2 * 2 ^ t) < 2 ^ t
  · rw [if_pos hl, if_pos hl, h i hi, h (i + 2 ^ t) (by omega)]
  · rw [if_neg hl, if_neg hl, h i hi, h (i - 2 ^ t) (by omega)]
theorem bin_loc {t a n : Nat} {f g : Nat → El 16} (hn : n % (2 * 2 ^ t) = 0) (h : ∀ i, i < n → f i = g i) : ∀ i, i < n → bin' t a f i = bin' t a g i := by
  intro i hi
  have h0 : 0 < 2 ^ t := Nat.two_pow_pos t
  have hd := Nat.div_add_mod n (2 * 2 ^ t)
  have hd2 := Nat.div_add_mod i (2 * 2 ^ t)
  have hq : i / (2 * 2 ^ t) < n / (2 * 2 ^ t) := by
    rw [hn, Nat.add_zero] at hd
    rw [← hd] at hi
    exact (Nat.div_lt_iff_lt_mul (by omega)).2 (by rw [Nat.mul_comm]; exact hi)
  have hm : 2 * 2 ^ t * (i / (2 * 2 ^ t)) + 2 * 2 ^ t ≤ 2 * 2 ^ t * (n / (2 * 2 ^ t)) := by
    rw [← Nat.mul_succ]; exact Nat.mul_le_mul_left _ hq
  unfold bin'
  by_cases hl : i % (2 * 2 ^ t) < 2 ^ t
  · rw [if_pos hl, if_pos hl, h i hi, h (i + 2 ^ t) (by omega)]
  · rw [if_neg hl, if_neg hl, h i hi, h (i - 2 ^ t) (by omega)]
theorem pow_dvd_mod {n k t : Nat} (h : n % 2 ^ k = 0) (ht : t < k) : n % (2 * 2 ^ t) = 0 := by
  rw [show 2 * 2 ^ t = 2 ^ (t + 1) by rw [Nat.pow_succ, Nat.mul_comm]]
  exact Nat.mod_eq_zero_of_dvd (Nat.dvd_trans (Nat.pow_dvd_pow 2 ht) (Nat.dvd_of_mod_eq_zero h))
theorem itF_loc {a n : Nat} : ∀ {k : Nat} {f g : Nat → El 16}, n % 2 ^ k = 0 → (∀ i, i < n → f i = g i) → ∀ i, i < n → itF a k f i = itF a k g i
  | 0, f, g, _, h => h
  | k + 1, f, g, hn, h => itF_loc (k := k) (Nat.mod_eq_zero_of_dvd (Nat.dvd_trans (Nat.pow_dvd_pow 2 (Nat.le_succ k)) (Nat.dvd_of_mod_eq_zero hn))) (bfn_loc (pow_dvd_mod hn (Nat.lt_succ_self k)) h)
theorem itI_loc {a n : Nat} : ∀ {k : Nat} {f g : Nat → El 16}, n % 2 ^ k = 0 → (∀ i, i < n → f i = g i) → ∀ i, i < n → itI a k f i = itI a k g i
  | 0, f, g, _, h => h
  | k + 1, f, g, hn, h => bin_loc (pow_dvd_mod hn (Nat.lt_succ_self k)) (itI_loc (k := k) (Nat.mod_eq_zero_of_dvd (Nat.dvd_trans (Nat.pow_dvd_pow 2 (Nat.le_succ k)) (Nat.dvd_of_mod_eq_zero hn))) h)
/-- A later block is the first one of what begins there. -/
theorem bfn_sh {t a o : Nat} (f : Nat → El 16) (ho : o % (2 * 2 ^ t) = 0) (i : Nat) : bfn t a f (o + i) = bfn t (a + o) (fun j => f (o + j)) i := by
  have h0 : 0 < 2 ^ t := Nat.two_pow_pos t
  have hm : (o + i) % (2 * 2 ^ t) = i % (2 * 2 ^ t) := by rw [Nat.add_mod, ho, Nat.zero_add, Nat.mod_mod]
  have hle : i % (2 * 2 ^ t) ≤ i := Nat.mod_le _ _
  unfold bfn
  rw [hm, show a + (o + i - i % (2 * 2 ^ t)) = a + o + (i - i % (2 * 2 ^ t)) by omega]
  by_cases hl : i % (2 * 2 ^ t) < 2 ^ t
  · rw [if_pos hl, if_pos hl, show a + o + (i - i % (2 * 2 ^ t)) = a + (o + (i - i % (2 * 2 ^ t))) by omega]
    show _ + _ * f (o + i + 2 ^ t) = _ + _ * f (o + (i + 2 ^ t))
    rw [Nat.add_assoc o i]
  · obtain ⟨h1, h2⟩ := mod2h_high h0 hl
    rw [if_neg hl, if_neg hl, show o + i - 2 ^ t = o + (i - 2 ^ t) by omega]
theorem itF_sh {a o : Nat} : ∀ {k : Nat} (f : Nat → El 16), o % 2 ^ k = 0 → ∀ i, itF a k f (o + i) = itF (a + o) k (fun j => f (o + j)) i
  | 0, f, _, i => rfl
  | k + 1, f, ho, i => by
    show itF a k (bfn k a f) (o + i) = itF (a + o) k (bfn k (a + o) fun j => f (o + j)) i
    rw [itF_sh (k := k) (bfn k a f) (Nat.mod_eq_zero_of_dvd (Nat.dvd_trans (Nat.pow_dvd_pow 2 (Nat.le_succ k)) (Nat.dvd_of_mod_eq_zero ho))) i]
    congr 1
    exact funext fun j => bfn_sh f (pow_dvd_mod ho (Nat.lt_succ_self k)) j
end Go.Fw
