/- Numbers as polynomials over GF(2), and what they are in the field. Plain maths. -/
import Derived.Test.YtpmfeaajpjjfiaaFwPG
import Derived.Test.YtpmfeaajpjjfiaaGfBG
set_option linter.all false
set_option linter.unusedVariables false
namespace Go.Fw
theorem bmul_mx {n : Nat} (r a b : BitVec n) : bmul r (mx r a) b = mx r (bmul r a b) := by
  have hs : ∀ (f : Nat → BitVec n) m, mx r (bsum f m) = bsum (fun i => mx r (f i)) m := by
    intro f m
    induction m with
    | zero => exact mx_zero r
    | succ m ih => simp only [bsum, mx_xor, ih]
  unfold bmul
  rw [hs]
  refine bsum_congr n fun i _ => ?_
  rw [pw_mx]
  cases b.getLsbD i
  · exact (mx_zero r).symm
  · rfl
/-- A number modulo the polynomial. -/
def ph (n : Nat) : BitVec 16 := if h : n = 0 then 0 else mx r16 (ph (n / 2)) ^^^ BitVec.ofNat 16 (n % 2)
termination_by n
decreasing_by omega
theorem ph_zero : ph 0 = 0 := by unfold ph; rfl
theorem ph_step (n : Nat) : ph n = mx r16 (ph (n / 2)) ^^^ BitVec.ofNat 16 (n % 2) := by
  by_cases h : n = 0
  · subst h; rw [show 0 / 2 = 0 from rfl, ph_zero, mx_zero]; rfl
  · rw [ph, dif_neg h]
theorem ph_two (n : Nat) : ph (2 * n) = mx r16 (ph n) := by
  rw [ph_step, show 2 * n / 2 = n by omega, show 2 * n % 2 = 0 by omega]
  exact BitVec.xor_zero
theorem ph_shl (n : Nat) : ∀ s, ph (n <<< s) = pw r16 (ph n) s
  | 0 => rfl
  | s + 1 => by
    rw [Nat.shiftLeft_succ, ph_two, ph_shl n s]; rfl
theorem ph_xor (a b : Nat) : ph (a ^^^ b) = ph a ^^^ ph b := by
  induction a using Nat.strongRecOn generalizing b with
  | ind a ih =>
    by_cases h : a = 0
    · subst h; rw [ph_zero, Nat.zero_xor]; exact BitVec.zero_xor.symm
    · have e1 : (a ^^^ b) / 2 = (a / 2) ^^^ (b / 2) := by
        have := Nat.shiftRight_xor_distrib (a := a) (b := b) (i := 1)
        simpa [Nat.shiftRight_eq_div_pow] using this
      have e2 : BitVec.ofNat 16 ((a ^^^ b) % 2) = BitVec.ofNat 16 (a % 2) ^^^ BitVec.ofNat 16 (b % 2) := by
        have : (a ^^^ b) % 2 = (a % 2) ^^^ (b % 2) := by have := Nat.xor_mod_two_pow (a := a) (b := b) (n := 1); simpa using this
        rw [this]
        rcases Nat.mod_two_eq_zero_or_one a with ha | ha <;> rcases Nat.mod_two_eq_zero_or_one b with hb | hb <;> rw [ha, hb] <;> rfl
      rw [ph_step (a ^^^ b), ph_step a, ph_step b, e1, e2, ih (a / 2) (by omega), mx_xor]
      ac_rfl
theorem two_xor (k b : Nat) (hb : b < 2) : 2 * k ^^^ b = 2 * k + b := by
  rcases (show b = 0 ∨ b = 1 by omega) with rfl | rfl
  · simp
  · refine Nat.eq_of_testBit_eq fun i => ?_
    cases i with
    | zero => simp [Nat.testBit_xor]
    | succ i => rw [Nat.testBit_xor, Nat.testBit_succ, Nat.testBit_succ, Nat.testBit_succ, show 2 * k / 2 = k by omega, show (2 * k + 1) / 2 = k by omega]; simp
theorem ph_small : ∀ n, n < 65536 → ph n = BitVec.ofNat 16 n := by
  intro n
  induction n using Nat.strongRecOn with
  | ind n ih =>
    intro hn
    by_cases h : n = 0
    · subst h; exact ph_zero
    · have hk : n / 2 < 32768 := by omega
      rw [ph_step, ih (n / 2) (by omega) (by omega)]
      have hm : (BitVec.ofNat 16 (n / 2)).msb = false := by
        rw [BitVec.msb_eq_decide]; simp; omega
      unfold mx
      rw [hm]
      simp only [Bool.false_eq_true, if_false]
      apply BitVec.eq_of_toNat_eq
      rw [BitVec.toNat_xor, BitVec.toNat_shiftLeft, BitVec.toNat_ofNat, BitVec.toNat_ofNat, BitVec.toNat_ofNat, Nat.shiftLeft_eq, Nat.mod_eq_of_lt (show n / 2 < 2 ^ 16 by omega), Nat.mod_eq_of_lt (show n % 2 < 2 ^ 16 by omega), Nat.mod_eq_of_lt (show n / 2 * 2 ^ 1 < 2 ^ 16 by omega), Nat.mod_eq_of_lt (show n < 2 ^ 16 by omega)]
      have := two_xor (n / 2) (n % 2) (by omega)
      rw [show n / 2 * 2 ^ 1 = 2 * (n / 2) by omega, this]
      omega
theorem ph_p : ph 65581 = 0 := by
  have h : ph 65581 = mx r16 (ph 32790) ^^^ BitVec.ofNat 16 1 := ph_step 65581
  rw [h, ph_small 32790 (by decide)]
  decide
/-- The product without carries. -/
def cl (c x : Nat) : Nat := if h : c = 0 then 0 else (if c % 2 = 1 then x else 0) ^^^ (2 * cl (c / 2) x)
termination_by c
decreasing_by omega
theorem cl_zero (x : Nat) : cl 0 x = 0 := by unfold cl; rfl
theorem cl_step (c x : Nat) : cl c x = (if c % 2 = 1 then x else 0) ^^^ (2 * cl (c / 2) x) := by
  by_cases h : c = 0
  · subst h; rw [show 0 / 2 = 0 from rfl, cl_zero, if_neg (by decide)]; rfl
  · rw [cl, dif_neg h]
theorem ph_cl (c x : Nat) : ph (cl c x) = bmul r16 (ph c) (ph x) := by
  induction c using Nat.strongRecOn with
  | ind c ih =>
    by_cases h : c = 0
    · subst h
      rw [cl_zero, ph_zero]
      have := El.zero_mul (⟨ph x⟩ : El 16)
      exact (congrArg El.v this).symm
    · rw [cl_step, ph_xor, ph_two, ih (c / 2) (by omega), ph_step c, bmul_xor_left, bmul_mx]
      rw [BitVec.xor_comm]
      congr 1
      rcases Nat.mod_two_eq_zero_or_one c with hc | hc <;> rw [hc]
      · rw [if_neg (by decide), ph_zero]
        have := El.zero_mul (⟨ph x⟩ : El 16)
        exact (congrArg El.v this).symm
      · rw [if_pos rfl]
        have := El.one_mul (⟨ph x⟩ : El 16)
        exact (congrArg El.v this).symm
theorem blen_double {n : Nat} (h : n ≠ 0) : blen (2 * n) = blen n + 1 := by
  have h1 := blen_pos h
  have h2 := lt_blen n
  have h3 : 1 ≤ blen n := by
    rcases Nat.eq_zero_or_pos (blen n) with h0 | h0
    · rw [h0] at h2; simp at h2; exact absurd h2 h
    · exact h0
  refine blen_eq ?_ ?_
  · have : 2 ^ blen n = 2 ^ (blen n - 1) * 2 := by rw [← Nat.pow_succ]; congr 1; omega
    omega
  · rw [Nat.pow_succ]; omega
theorem blen_half {n : Nat} (h : 2 ≤ n) : blen n = blen (n / 2) + 1 := by
  have h1 := blen_pos (show n / 2 ≠ 0 by omega)
  have h2 := lt_blen (n / 2)
  have h3 : 1 ≤ blen (n / 2) := by
    rcases Nat.eq_zero_or_pos (blen (n / 2)) with h0 | h0
    · rw [h0] at h2; simp at h2; omega
    · exact h0
  refine blen_eq ?_ ?_
  · have : 2 ^ blen (n / 2) = 2 ^ (blen (n / 2) - 1) * 2 := by rw [← Nat.pow_succ]; congr 1; omega
    omega
  · rw [Nat.pow_succ]; omega
theorem blen_xor_lt {a b : Nat} (h : blen a < blen b) : blen (a ^^^ b) = blen b := by
  have hb0 : b ≠ 0 := by rintro rfl; rw [blen_zero] at h; omega
  have h1 := blen_pos hb0
  have h2 := lt_blen b
  have h3 := lt_blen a
  have h4 : a < 2 ^ (blen b - 1) := Nat.lt_of_lt_of_le h3 (Nat.pow_le_pow_right (by omega) (by omega))
  have hx : a ^^^ b < 2 ^ blen b := Nat.xor_lt_two_pow (Nat.lt_of_lt_of_le h4 (Nat.pow_le_pow_right (by omega) (by omega))) h2
  have hge : 2 ^ (blen b - 1) ≤ a ^^^ b := by
    refine Nat.le_of_not_lt fun hlt => ?_
    have : b = a ^^^ (a ^^^ b) := by rw [← Nat.xor_assoc, Nat.xor_self, Nat.zero_xor]
    have h5 : a ^^^ (a ^^^ b) < 2 ^ (blen b - 1) := Nat.xor_lt_two_pow h4 hlt
    rw [← this] at h5
    omega
  have := blen_eq (m := blen b - 1) hge (by rw [show blen b - 1 + 1 = blen b by omega]; exact hx)
  omega
theorem blen_xor_eq {a b : Nat} (h : blen a = blen b) (hb : b ≠ 0) : blen (a ^^^ b) < blen b := by
  rcases Nat.lt_trichotomy (blen (a ^^^ b)) (blen b) with h1 | h1 | h1
  · exact h1
  · exfalso
    -- a and a ^^^ b have b's length: then b = a ^^^ (a ^^^ b) would be shorter; by bits
    have ha0 : a ≠ 0 := by rintro rfl; rw [blen_zero] at h; have := blen_pos hb; rw [← h] at this; have h2 := lt_blen b; rw [← h] at h2; omega
    have hx0 : a ^^^ b ≠ 0 := by intro e; rw [e, blen_zero] at h1; have h2 := lt_blen b; rw [← h1] at h2; simp at h2; exact hb h2
    have tb : ∀ n : Nat, n ≠ 0 → n.testBit (blen n - 1) = true := by
      intro n hn
      have p1 := blen_pos hn
      have p2 := lt_blen n
      have p3 : 1 ≤ blen n := by
        rcases Nat.eq_zero_or_pos (blen n) with h0 | h0
        · rw [h0] at p2; simp at p2; exact absurd p2 hn
        · exact h0
      rw [Nat.testBit_eq_decide_div_mod_eq]
      have : n / 2 ^ (blen n - 1) = 1 := by
        apply Nat.div_eq_of_lt_le
        · omega
        · have : 2 ^ blen n = 2 ^ (blen n - 1) * 2 := by rw [← Nat.pow_succ]; congr 1; omega
          omega
      rw [this]; rfl
    have t1 := tb a ha0
    have t2 := tb b hb
    have t3 := tb _ hx0
    rw [h1, Nat.testBit_xor, t2, ← h, t1] at t3
    simp at t3
  · exfalso
    have h2 : a ^^^ b < 2 ^ blen b := Nat.xor_lt_two_pow (by rw [← h]; exact lt_blen a) (lt_blen b)
    have := blen_lt h2
    omega
theorem cl_blen {c x : Nat} (hc : c ≠ 0) (hx : x ≠ 0) : blen (cl c x) = blen c + blen x - 1 ∧ cl c x ≠ 0 := by
  have hbx : 1 ≤ blen x := by
    have h2 := lt_blen x
    rcases Nat.eq_zero_or_pos (blen x) with h0 | h0
    · rw [h0] at h2; simp at h2; exact absurd h2 hx
    · exact h0
  have key : blen (cl c x) = blen c + blen x - 1 := by
    induction c using Nat.strongRecOn with
    | ind c ih =>
      by_cases h1 : c = 1
      · subst h1
        rw [cl_step]
        show blen ((if 1 % 2 = 1 then x else 0) ^^^ (2 * cl 0 x)) = _
        rw [cl_zero]
        have : blen 1 = 1 := by decide
        simp [this]
      · have h2 := ih (c / 2) (by omega) (by omega)
        have hb := blen_half (show 2 ≤ c by omega)
        have hne : cl (c / 2) x ≠ 0 := by
          intro e
          rw [e, blen_zero] at h2
          have h3 := lt_blen (c / 2)
          have h4 : 1 ≤ blen (c / 2) := by
            rcases Nat.eq_zero_or_pos (blen (c / 2)) with h0 | h0
            · rw [h0] at h3; simp at h3; omega
            · exact h0
          omega
        have hd := blen_double hne
        have hcp : 1 ≤ blen (c / 2) := by
          have h3 := lt_blen (c / 2)
          rcases Nat.eq_zero_or_pos (blen (c / 2)) with h0 | h0
          · rw [h0] at h3; simp at h3; omega
          · exact h0
        rw [cl_step]
        have h5 : blen (if c % 2 = 1 then x else 0) < blen (2 * cl (c / 2) x) := by
          split
          · omega
          · rw [blen_zero]; omega
        rw [blen_xor_lt h5]
        omega
  refine ⟨key, fun e => ?_⟩
  rw [e, blen_zero] at key
  have h3 := lt_blen c
  have : 1 ≤ blen c := by
    rcases Nat.eq_zero_or_pos (blen c) with h0 | h0
    · rw [h0] at h3; simp at h3; omega
    · exact h0
  omega
end Go.Fw
