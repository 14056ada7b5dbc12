import Derived.Test.YtbaljbadlfopgaaGfCF
set_option linter.all false
/- The powers of 2 in the field of 65536 elements, and their logarithms. Plain maths. -/
set_option linter.unusedVariables false
set_option linter.unusedSimpArgs false
namespace Go.Fw
/-- 2^j -/
def gq (j : Nat) : BitVec 16 := pw r16 1 j
theorem bmul_pw16 (a b : BitVec 16) (j : Nat) : pw r16 (bmul r16 a b) j = bmul r16 (pw r16 a j) b := by
  unfold bmul
  have hs : ∀ (f : Nat → BitVec 16) m, pw r16 (bsum f m) j = bsum (fun i => pw r16 (f i) j) m := by
    intro f m
    induction m with
    | zero => exact pw_zero r16 j
    | succ m ih => simp only [bsum, pw_xor, ih]
  rw [hs]
  refine bsum_congr 16 fun i _ => ?_
  rw [pw_sel, pw_add, pw_add, Nat.add_comm]
theorem gq_mul (i j : Nat) : bmul r16 (gq i) (gq j) = gq (i + j) := by
  rw [c16]
  have := bmul_pw16 1 (gq i) j
  rw [c16 1, o16] at this
  unfold gq at *
  rw [← this, pw_add]
/-- The power, by its bits from the top. -/
def gqb : List Bool → BitVec 16 → BitVec 16
  | [], a => a
  | b :: l, a => gqb l (if b then mx r16 (bmul r16 a a) else bmul r16 a a)
def nbv : List Bool → Nat → Nat
  | [], n => n
  | b :: l, n => nbv l (if b then 2 * n + 1 else 2 * n)
theorem gqb_eq : ∀ (l : List Bool) (n : Nat), gqb l (gq n) = gq (nbv l n)
  | [], n => rfl
  | b :: l, n => by
    show gqb l (if b then mx r16 (bmul r16 (gq n) (gq n)) else bmul r16 (gq n) (gq n)) = gq (nbv l (if b then 2 * n + 1 else 2 * n))
    rw [gq_mul, show n + n = 2 * n by omega]
    cases b
    · exact gqb_eq l (2 * n)
    · exact gqb_eq l (2 * n + 1)
theorem gq_of {l : List Bool} {N : Nat} {v : BitVec 16} (h : nbv l 0 = N) (hv : gqb l 1 = v) : gq N = v := by
  rw [← h, ← gqb_eq l 0]; exact hv
theorem gq_full : gq 65535 = 1 := gq_of (l := List.replicate 16 true) (by decide) (by decide +kernel)
theorem gq_3 : gq 21845 ≠ 1 := by
  rw [gq_of (l := [true, false, true, false, true, false, true, false, true, false, true, false, true, false, true]) (N := 21845) (by decide) rfl]; decide +kernel
theorem gq_5 : gq 13107 ≠ 1 := by
  rw [gq_of (l := [true, true, false, false, true, true, false, false, true, true, false, false, true, true]) (N := 13107) (by decide) rfl]; decide +kernel
theorem gq_17 : gq 3855 ≠ 1 := by
  rw [gq_of (l := [true, true, true, true, false, false, false, false, true, true, true, true]) (N := 3855) (by decide) rfl]; decide +kernel
theorem gq_257 : gq 255 ≠ 1 := by
  rw [gq_of (l := List.replicate 8 true) (N := 255) (by decide) rfl]; decide +kernel
theorem gq_nz (j : Nat) : gq j ≠ 0 := by
  intro h
  have h2 := gq_mul j (65535 * (j + 1) - j)
  have h3 : ∀ k, gq (65535 * k) = 1 := fun k => by
    induction k with
    | zero => rfl
    | succ k ih => rw [Nat.mul_add, ← gq_mul, ih, Nat.mul_one, gq_full]; decide +kernel
  rw [show j + (65535 * (j + 1) - j) = 65535 * (j + 1) by omega, h3, h, c16] at h2
  have h4 : ∀ a : BitVec 16, bmul r16 a 0 = 0 := fun a => (badd_mul_right r16 a).zero
  rw [h4] at h2
  exact absurd h2 (by decide)
theorem gq_sub {a b : Nat} (hab : a ≤ b) (h : gq a = gq b) : gq (b - a) = 1 := by
  have h1 : gq b = bmul r16 (gq a) (gq (b - a)) := by rw [gq_mul]; congr 1; omega
  rw [← h] at h1
  have h2 : (⟨gq a⟩ : El 16) * (⟨gq (b - a)⟩ + 1) = 0 := by
    rw [El.mul_add, El.mul_one]
    apply El.ext
    show bmul r16 (gq a) (gq (b - a)) ^^^ gq a = 0
    rw [← h1, BitVec.xor_self]
    rfl
  rcases El.mul_eq_zero.1 h2 with h3 | h3
  · exact absurd (congrArg El.v h3) (gq_nz a)
  · exact congrArg El.v (El.eq_of_add h3)
theorem gq_times {a : Nat} (h : gq a = 1) : ∀ k, gq (a * k) = 1
  | 0 => rfl
  | k + 1 => by rw [Nat.mul_add, ← gq_mul, gq_times h k, Nat.mul_one, h]; exact o16 1
theorem gq_gcd {a b : Nat} (ha : gq a = 1) (hb : gq b = 1) : gq (Nat.gcd a b) = 1 := by
  induction a, b using Nat.gcd.induction with
  | H0 n => rw [Nat.gcd_zero_left]; exact hb
  | H1 m n hm ih =>
    rw [Nat.gcd_rec]
    refine ih ?_ ha
    have h1 : gq (n % m) = gq n := by
      conv => rhs; rw [← Nat.mod_add_div n m, ← gq_mul, gq_times ha, o16]
    rw [h1]; exact hb
theorem cop3 {q : Nat} (h : q % 3 ≠ 0) : Nat.Coprime q 3 := by
  unfold Nat.Coprime
  rw [Nat.gcd_comm, Nat.gcd_rec]
  have : q % 3 < 3 := Nat.mod_lt _ (by decide)
  revert h this; generalize q % 3 = z; intro h this
  have : ∀ z : Fin 3, z.val ≠ 0 → Nat.gcd z.val 3 = 1 := by decide +kernel
  exact this ⟨z, by omega⟩ h
theorem cop5 {q : Nat} (h : q % 5 ≠ 0) : Nat.Coprime q 5 := by
  unfold Nat.Coprime
  rw [Nat.gcd_comm, Nat.gcd_rec]
  have : q % 5 < 5 := Nat.mod_lt _ (by decide)
  revert h this; generalize q % 5 = z; intro h this
  have : ∀ z : Fin 5, z.val ≠ 0 → Nat.gcd z.val 5 = 1 := by decide +kernel
  exact this ⟨z, by omega⟩ h
theorem cop17 {q : Nat} (h : q % 17 ≠ 0) : Nat.Coprime q 17 := by
  unfold Nat.Coprime
  rw [Nat.gcd_comm, Nat.gcd_rec]
  have : q % 17 < 17 := Nat.mod_lt _ (by decide)
  revert h this; generalize q % 17 = z; intro h this
  have : ∀ z : Fin 17, z.val ≠ 0 → Nat.gcd z.val 17 = 1 := by decide +kernel
  exact this ⟨z, by omega⟩ h
theorem cop257 {q : Nat} (h : q % 257 ≠ 0) : Nat.Coprime q 257 := by
  unfold Nat.Coprime
  rw [Nat.gcd_comm, Nat.gcd_rec]
  have : q % 257 < 257 := Nat.mod_lt _ (by decide)
  revert h this; generalize q % 257 = z; intro h this
  have : ∀ z : Fin 257, z.val ≠ 0 → Nat.gcd z.val 257 = 1 := by decide +kernel
  exact this ⟨z, by omega⟩ h
theorem up_dvd {g q c A : Nat} (h : g * q = c * A) (hc : 0 < c) (hq : q % c = 0) : g ∣ A := by
  obtain ⟨r, hr⟩ := Nat.dvd_of_mod_eq_zero hq
  refine ⟨r, ?_⟩
  rw [hr, show g * (c * r) = c * (g * r) by ac_rfl] at h
  exact (Nat.eq_of_mul_eq_mul_left hc h).symm
theorem div_cases {g : Nat} (h : g ∣ 65535) : g ∣ 21845 ∨ g ∣ 13107 ∨ g ∣ 3855 ∨ g ∣ 255 ∨ g = 65535 := by
  obtain ⟨q, hq⟩ := h
  by_cases h3 : q % 3 = 0
  · exact Or.inl (up_dvd (c := 3) (by omega) (by omega) h3)
  by_cases h5 : q % 5 = 0
  · exact Or.inr (Or.inl (up_dvd (c := 5) (by omega) (by omega) h5))
  by_cases h17 : q % 17 = 0
  · exact Or.inr (Or.inr (Or.inl (up_dvd (c := 17) (by omega) (by omega) h17)))
  by_cases h257 : q % 257 = 0
  · exact Or.inr (Or.inr (Or.inr (Or.inl (up_dvd (c := 257) (by omega) (by omega) h257))))
  refine Or.inr (Or.inr (Or.inr (Or.inr ?_)))
  have d0 : q ∣ 3 * 21845 := ⟨g, by rw [Nat.mul_comm q g, ← hq]⟩
  have d1 : q ∣ 5 * 4369 := (cop3 h3).dvd_of_dvd_mul_left d0
  have d2 : q ∣ 17 * 257 := (cop5 h5).dvd_of_dvd_mul_left d1
  have d3 : q ∣ 257 * 1 := (cop17 h17).dvd_of_dvd_mul_left d2
  have d4 : q ∣ 1 := (cop257 h257).dvd_of_dvd_mul_left d3
  have : q = 1 := Nat.dvd_one.1 d4
  subst this
  omega
theorem gq_dvd {a b : Nat} (h : gq a = 1) (hd : a ∣ b) : gq b = 1 := by
  obtain ⟨k, rfl⟩ := hd
  exact gq_times h k
/-- No lower power of 2 is 1. -/
theorem gq_ne {d : Nat} (h0 : d ≠ 0) (hd : d < 65535) : gq d ≠ 1 := fun h => by
  have hg := gq_gcd h gq_full
  have hle : Nat.gcd d 65535 ≤ d := Nat.gcd_le_left _ (by omega)
  rcases div_cases (Nat.gcd_dvd_right d 65535) with h1 | h1 | h1 | h1 | h1
  · exact gq_3 (gq_dvd hg h1)
  · exact gq_5 (gq_dvd hg h1)
  · exact gq_17 (gq_dvd hg h1)
  · exact gq_257 (gq_dvd hg h1)
  · omega
theorem gq_inj {i j : Nat} (hi : i < 65535) (hj : j < 65535) (h : gq i = gq j) : i = j := by
  by_cases he : i = j
  · exact he
  exfalso
  rcases Nat.le_total i j with hij | hij
  · exact gq_ne (d := j - i) (by omega) (by omega) (gq_sub hij h)
  · exact gq_ne (d := i - j) (by omega) (by omega) (gq_sub hij h.symm)
theorem gq_wrap (j : Nat) : gq (j % 65535) = gq j := by
  conv => rhs; rw [← Nat.mod_add_div j 65535, ← gq_mul, gq_times gq_full, o16]
/-- So many different numbers below n. -/
theorem nodup_len : ∀ (n : Nat) (l : List Nat), l.Nodup → (∀ x ∈ l, x < n) → l.length ≤ n
  | 0, l, _, h => by
    cases l with
    | nil => exact Nat.le_refl _
    | cons a l => exact absurd (h a (List.mem_cons_self ..)) (by omega)
  | n + 1, l, hd, h => by
    have h1 := nodup_len n (l.erase n) (hd.erase n) fun x hx => by
      have h2 := (hd.mem_erase_iff).1 hx
      have := h x h2.2
      omega
    have h3 : l.length ≤ (l.erase n).length + 1 := by
      by_cases hm : n ∈ l
      · rw [List.length_erase_of_mem hm]; omega
      · rw [List.erase_of_not_mem hm]; omega
    omega
theorem gq_exN (N : Nat) (hN : N = 65535) (a : BitVec 16) (h : a ≠ 0) : ∃ j, j < N ∧ gq j = a := by
  by_cases he : ∃ j, j < N ∧ gq j = a
  · exact he
  exfalso
  have hne : ∀ j, j < N → gq j ≠ a := fun j hj e => he ⟨j, hj, e⟩
  have ht : ∀ x y : BitVec 16, x.toNat = y.toNat → x = y := fun x y => BitVec.eq_of_toNat_eq
  have hl := nodup_len 65536 (0 :: a.toNat :: (List.range N).map fun j => (gq j).toNat) (by
    rw [List.nodup_cons, List.nodup_cons]
    refine ⟨fun hm => ?_, fun hm => ?_, ?_⟩
    · rcases List.mem_cons.1 hm with e | hm
      · exact h (ht _ _ (by rw [← e]; rfl))
      · obtain ⟨j, hj, e⟩ := List.mem_map.1 hm
        exact gq_nz j (ht _ _ (by rw [e]; rfl))
    · obtain ⟨j, hj, e⟩ := List.mem_map.1 hm
      exact hne j (List.mem_range.1 hj) (ht _ _ e)
    · unfold List.Nodup
      rw [List.pairwise_map]
      refine List.Pairwise.imp_of_mem (R := (· < ·)) (fun {x y} hx hy hxy e => ?_) List.pairwise_lt_range
      have := gq_inj (by have := List.mem_range.1 hx; omega) (by have := List.mem_range.1 hy; omega) (ht _ _ e)
      omega) fun x hx => by
        rcases List.mem_cons.1 hx with rfl | hx
        · decide
        rcases List.mem_cons.1 hx with rfl | hx
        · exact a.isLt
        obtain ⟨j, hj, rfl⟩ := List.mem_map.1 hx
        exact (gq j).isLt
  simp only [List.length_cons, List.length_map, List.length_range] at hl
  omega
theorem gq_ex (a : BitVec 16) (h : a ≠ 0) : ∃ j, j < 65535 ∧ gq j = a := gq_exN 65535 rfl a h
/-- The logarithm. -/
theorem inv_gq (j : Nat) (hj : j ≤ 65535) : (⟨gq j⟩ : El 16).inv = ⟨gq (65535 - j)⟩ := by
  have h1 : (⟨gq j⟩ : El 16) * ⟨gq (65535 - j)⟩ = 1 := El.ext (by show bmul r16 (gq j) (gq (65535 - j)) = 1; rw [gq_mul, show j + (65535 - j) = 65535 by omega, gq_full])
  have h0 : (⟨gq j⟩ : El 16) ≠ 0 := fun e => gq_nz j (congrArg El.v e)
  have h2 := congrArg (fun z => (⟨gq j⟩ : El 16).inv * z) h1
  simp only [← El.mul_assoc] at h2
  rw [El.mul_comm _ (⟨gq j⟩ : El 16), El.mul_inv _ h0, El.one_mul, El.mul_one] at h2
  exact h2.symm
/-- The step of New. -/
theorem mxb16 : ∀ s : BitVec 16, (mx r16 s).toNat = if 65535 < 2 * s.toNat then (2 * s.toNat) ^^^ 65581 else 2 * s.toNat := by
  intro s
  have hs := s.isLt
  unfold mx
  by_cases h : s.msb
  · have h1 : 32768 ≤ s.toNat := by
      have := BitVec.msb_eq_decide s; rw [h] at this; simpa using this.symm
    rw [if_pos h, if_pos (by omega), BitVec.toNat_xor, BitVec.toNat_shiftLeft, Nat.shiftLeft_eq]
    have h2 : s.toNat * 2 ^ 1 % 2 ^ 16 = (2 * s.toNat) ^^^ 65536 := by
      have e1 : s.toNat * 2 ^ 1 % 2 ^ 16 = 2 * s.toNat - 65536 := by omega
      rw [e1]
      obtain ⟨u, hu⟩ : ∃ u, 2 * s.toNat = 65536 + u := ⟨2 * s.toNat - 65536, by omega⟩
      have e2 : 65536 + u = 65536 ^^^ u := by
        rw [show (65536 : Nat) = 2 ^ 16 from rfl]
        have : u < 2 ^ 16 := by omega
        have h3 := Nat.two_pow_add_eq_or_of_lt this 1
        rw [Nat.mul_one] at h3
        rw [h3]
        refine Nat.eq_of_testBit_eq fun t => ?_
        rw [Nat.testBit_or, Nat.testBit_xor, Nat.testBit_two_pow]
        by_cases ht : 16 = t
        · subst ht
          rw [Nat.testBit_lt_two_pow this]; simp
        · simp [ht]
      rw [hu, Nat.add_sub_cancel_left, e2, Nat.xor_comm 65536 u, Nat.xor_assoc, Nat.xor_self, Nat.xor_zero]
    rw [h2]
    rw [Nat.xor_assoc]
    rfl
  · have h1 : s.toNat < 32768 := by
      have := BitVec.msb_eq_decide s
      simp only [Bool.not_eq_true] at h
      rw [h] at this
      simpa using this.symm
    rw [if_neg h, if_neg (by omega), BitVec.toNat_shiftLeft, Nat.shiftLeft_eq]
    omega
end Go.Fw
