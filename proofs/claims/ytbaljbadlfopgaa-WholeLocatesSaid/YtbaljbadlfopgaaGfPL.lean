import Derived.Test.YtbaljbadlfopgaaGfBL
set_option linter.all false
/- The powers of 2 in the field of 256 elements, and their logarithms. -/
set_option linter.unusedVariables false
namespace Go.Fw
/-- 2^j -/
def gp (j : Nat) : BitVec 8 := pw r8 1 j
def lg8 : List Nat := [0, 0, 1, 25, 2, 50, 26, 198, 3, 223, 51, 238, 27, 104, 199, 75, 4, 100, 224, 14, 52, 141, 239, 129, 28, 193, 105, 248, 200, 8, 76, 113, 5, 138, 101, 47, 225, 36, 15, 33, 53, 147, 142, 218, 240, 18, 130, 69, 29, 181, 194, 125, 106, 39, 249, 185, 201, 154, 9, 120, 77, 228, 114, 166, 6, 191, 139, 98, 102, 221, 48, 253, 226, 152, 37, 179, 16, 145, 34, 136, 54, 208, 148, 206, 143, 150, 219, 189, 241, 210, 19, 92, 131, 56, 70, 64, 30, 66, 182, 163, 195, 72, 126, 110, 107, 58, 40, 84, 250, 133, 186, 61, 202, 94, 155, 159, 10, 21, 121, 43, 78, 212, 229, 172, 115, 243, 167, 87, 7, 112, 192, 247, 140, 128, 99, 13, 103, 74, 222, 237, 49, 197, 254, 24, 227, 165, 153, 119, 38, 184, 180, 124, 17, 68, 146, 217, 35, 32, 137, 46, 55, 63, 209, 91, 149, 188, 207, 205, 144, 135, 151, 178, 220, 252, 190, 97, 242, 86, 211, 171, 20, 42, 93, 158, 132, 60, 57, 83, 71, 109, 65, 162, 31, 45, 67, 216, 183, 123, 164, 118, 196, 23, 73, 236, 127, 12, 111, 246, 108, 161, 59, 82, 41, 157, 85, 170, 251, 96, 134, 177, 187, 204, 62, 90, 203, 89, 95, 176, 156, 169, 160, 81, 11, 245, 22, 235, 122, 117, 44, 215, 79, 174, 213, 233, 230, 231, 173, 232, 116, 214, 244, 234, 168, 80, 88, 175]
theorem gp_lg : ∀ a : Fin 256, a.val ≠ 0 → gp (lg8.getD a.val 0) = BitVec.ofNat 8 a.val ∧ lg8.getD a.val 0 < 255 := by decide +kernel
theorem gp_ex (a : BitVec 8) (h : a ≠ 0) : ∃ j, j < 255 ∧ gp j = a := by
  have hn : a.toNat ≠ 0 := fun e => h (BitVec.eq_of_toNat_eq e)
  obtain ⟨h1, h2⟩ := gp_lg ⟨a.toNat, a.isLt⟩ hn
  exact ⟨_, h2, by rw [h1]; simp⟩
theorem gp_255 : gp 255 = 1 := by decide +kernel
theorem bmul_pw (a b : BitVec 8) (j : Nat) : pw r8 (bmul r8 a b) j = bmul r8 (pw r8 a j) b := by
  unfold bmul
  have hs : ∀ (f : Nat → BitVec 8) m, pw r8 (bsum f m) j = bsum (fun i => pw r8 (f i) j) m := by
    intro f m
    induction m with
    | zero => exact pw_zero r8 j
    | succ m ih => simp only [bsum, pw_xor, ih]
  rw [hs]
  refine bsum_congr 8 fun i _ => ?_
  rw [pw_sel, pw_add, pw_add, Nat.add_comm]
theorem gp_mul (i j : Nat) : bmul r8 (gp i) (gp j) = gp (i + j) := by
  rw [c8]
  have := bmul_pw 1 (gp i) j
  rw [c8 1, o8] at this
  unfold gp at *
  rw [← this, pw_add]
end Go.Fw

/- The powers of 2 in the field of 65536 elements, and their logarithms. Plain maths. -/
set_option linter.unusedVariables false
set_option linter.unusedSimpArgs false
namespace Go.Fw
/-- 2^j -/
def gq (j : Nat) : BitVec 16 := pw r16 1 j
theorem bmul_pw16 (a b : BitVec 16) (j : Nat) : pw r16 (bmul r16 a b) j = bmul r16 (pw r16 a j) b := by
  unfold bmul
  have hs : ∀ (f : Nat → BitVec 16) m, pw r16 (bsum f m) j = bsum (fun i => pw r16 (f i) j) m := by
    intro f m
    induction m with
    | zero => exact pw_zero r16 j
    | succ m ih => simp only [bsum, pw_xor, ih]
  rw [hs]
  refine bsum_congr 16 fun i _ => ?_
  rw [pw_sel, pw_add, pw_add, Nat.add_comm]
theorem gq_mul (i j : Nat) : bmul r16 (gq i) (gq j) = gq (i + j) := by
  rw [c16]
  have := bmul_pw16 1 (gq i) j
  rw [c16 1, o16] at this
  unfold gq at *
  rw [← this, pw_add]
/-- The power, by its bits from the top. -/
def gqb : List Bool → BitVec 16 → BitVec 16
  | [], a => a
  | b :: l, a => gqb l (if b then mx r16 (bmul r16 a a) else bmul r16 a a)
def nbv : List Bool → Nat → Nat
  | [], n => n
  | b :: l, n => nbv l (if b then 2 * n + 1 else 2 * n)
theorem gqb_eq : ∀ (l : List Bool) (n : Nat), gqb l (gq n) = gq (nbv l n)
  | [], n => rfl
  | b :: l, n => by
    show gqb l (if b then mx r16 (bmul r16 (gq n) (gq n)) else bmul r16 (gq n) (gq n)) = gq (nbv l (if b then 2 * n + 1 else 2 * n))
    rw [gq_mul, show n + n = 2 * n by omega]
    cases b
    · exact gqb_eq l (2 * n)
    · exact gqb_eq l (2 * n + 1)
theorem gq_of {l : List Bool} {N : Nat} {v : BitVec 16} (h : nbv l 0 = N) (hv : gqb l 1 = v) : gq N = v := by
  rw [← h, ← gqb_eq l 0]; exact hv
theorem gq_full : gq 65535 = 1 := gq_of (l := List.replicate 16 true) (by decide) (by decide +kernel)
theorem gq_3 : gq 21845 ≠ 1 := by
  rw [gq_of (l := [true, false, true, false, true, false, true, false, true, false, true, false, true, false, true]) (N := 21845) (by decide) rfl]; decide +kernel
theorem gq_5 : gq 13107 ≠ 1 := by
  rw [gq_of (l := [true, true, false, false, true, true, false, false, true, true, false, false, true, true]) (N := 13107) (by decide) rfl]; decide +kernel
theorem gq_17 : gq 3855 ≠ 1 := by
  rw [gq_of (l := [true, true, true, true, false, false, false, false, true, true, true, true]) (N := 3855) (by decide) rfl]; decide +kernel
theorem gq_257 : gq 255 ≠ 1 := by
  rw [gq_of (l := List.replicate 8 true) (N := 255) (by decide) rfl]; decide +kernel
theorem gq_nz (j : Nat) : gq j ≠ 0 := by
  intro h
  have h2 := gq_mul j (65535 * (j + 1) - j)
  have h3 : ∀ k, gq (65535 * k) = 1 := fun k => by
    induction k with
    | zero => rfl
    | succ k ih => rw [Nat.mul_add, ← gq_mul, ih, Nat.mul_one, gq_full]; decide +kernel
  rw [show j + (65535 * (j + 1) - j) = 65535 * (j + 1) by omega, h3, h, c16] at h2
  have h4 : ∀ a : BitVec 16, bmul r16 a 0 = 0 := fun a => (badd_mul_right r16 a).zero
  rw [h4] at h2
  exact absurd h2 (by decide)
theorem gq_sub {a b : Nat} (hab : a ≤ b) (h : gq a = gq b) : gq (b - a) = 1 := by
  have h1 : gq b = bmul r16 (gq a) (gq (b - a)) := by rw [gq_mul]; congr 1; omega
  rw [← h] at h1
  have h2 : (⟨gq a⟩ : El 16) * (⟨gq (b - a)⟩ + 1) = 0 := by
    rw [El.mul_add, El.mul_one]
    apply El.ext
    show bmul r16 (gq a) (gq (b - a)) ^^^ gq a = 0
    rw [← h1, BitVec.xor_self]
    rfl
  rcases El.mul_eq_zero.1 h2 with h3 | h3
  · exact absurd (congrArg El.v h3) (gq_nz a)
  · exact congrArg El.v (El.eq_of_add h3)
theorem gq_times {a : Nat} (h : gq a = 1) : ∀ k, gq (a * k) = 1
  | 0 => rfl
  | k + 1 => by rw [Nat.mul_add, ← gq_mul, gq_times h k, Nat.mul_one, h]; exact o16 1
theorem gq_gcd {a b : Nat} (ha : gq a = 1) (hb : gq b = 1) : gq (Nat.gcd a b) = 1 := by
  induction a, b using Nat.gcd.induction with
  | H0 n => rw [Nat.gcd_zero_left]; exact hb
  | H1 m n hm ih =>
    rw [Nat.gcd_rec]
    refine ih ?_ ha
    have h1 : gq (n % m) = gq n := by
      conv => rhs; rw [← Nat.mod_add_div n m, ← gq_mul, gq_times ha, o16]
    rw [h1]; exact hb
theorem cop3 {q : Nat} (h : q % 3 ≠ 0) : Nat.Coprime q 3 := by
  unfold Nat.Coprime
  rw [Nat.gcd_comm, Nat.gcd_rec]
  have : q % 3 < 3 := Nat.mod_lt _ (by decide)
  revert h this; generalize q % 3 = z; intro h this
  have : ∀ z : Fin 3, z.val ≠ 0 → Nat.gcd z.val 3 = 1 := by decide +kernel
  exact this ⟨z, by omega⟩ h
theorem cop5 {q : Nat} (h : q % 5 ≠ 0) : Nat.Coprime q 5 := by
  unfold Nat.Coprime
  rw [Nat.gcd_comm, Nat.gcd_rec]
  have : q % 5 < 5 := Nat.mod_lt _ (by decide)
  revert h this; generalize q % 5 = z; intro h this
  have : ∀ z : Fin 5, z.val ≠ 0 → Nat.gcd z.val 5 = 1 := by decide +kernel
  exact this ⟨z, by omega⟩ h
theorem cop17 {q : Nat} (h : q % 17 ≠ 0) : Nat.Coprime q 17 := by
  unfold Nat.Coprime
  rw [Nat.gcd_comm, Nat.gcd_rec]
  have : q % 17 < 17 := Nat.mod_lt _ (by decide)
  revert h this; generalize q % 17 = z; intro h this
  have : ∀ z : Fin 17, z.val ≠ 0 → Nat.gcd z.val 17 = 1 := by decide +kernel
  exact this ⟨z, by omega⟩ h
theorem cop257 {q : Nat} (h : q % 257 ≠ 0) : Nat.Coprime q 257 := by
  unfold Nat.Coprime
  rw [Nat.gcd_comm, Nat.gcd_rec]
  have : q % 257 < 257 := Nat.mod_lt _ (by decide)
  revert h this; generalize q % 257 = z; intro h this
  have : ∀ z : Fin 257, z.val ≠ 0 → Nat.gcd z.val 257 = 1 := by decide +kernel
  exact this ⟨z, by omega⟩ h
theorem up_dvd {g q c A : Nat} (h : g * q = c * A) (hc : 0 < c) (hq : q % c = 0) : g ∣ A := by
  obtain ⟨r, hr⟩ := Nat.dvd_of_mod_eq_zero hq
  refine ⟨r, ?_⟩
  rw [hr, show g * (c * r) = c * (g * r) by ac_rfl] at h
  exact (Nat.eq_of_mul_eq_mul_left hc h).symm
theorem div_cases {g : Nat} (h : g ∣ 65535) : g ∣ 21845 ∨ g ∣ 13107 ∨ g ∣ 3855 ∨ g ∣ 255 ∨ g = 65535 := by
  obtain ⟨q, hq⟩ := h
  by_cases h3 : q % 3 = 0
  · exact Or.inl (up_dvd (c := 3) (by omega) (by omega) h3)
  by_cases h5 : q % 5 = 0
  · exact Or.inr (Or.inl (up_dvd (c := 5) (by omega) (by omega) h5))
  by_cases h17 : q % 17 = 0
  · exact Or.inr (Or.inr (Or.inl (up_dvd (c := 17) (by omega) (by omega) h17)))
  by_cases h257 : q % 257 = 0
  · exact Or.inr (Or.inr (Or.inr (Or.inl (up_dvd (c := 257) (by omega) (by omega) h257))))
  refine Or.inr (Or.inr (Or.inr (Or.inr ?_)))
  have d0 : q ∣ 3 * 21845 := ⟨g, by rw [Nat.mul_comm q g, ← hq]⟩
  have d1 : q ∣ 5 * 4369 := (cop3 h3).dvd_of_dvd_mul_left d0
  have d2 : q ∣ 17 * 257 := (cop5 h5).dvd_of_dvd_mul_left d1
  have d3 : q ∣ 257 * 1 := (cop17 h17).dvd_of_dvd_mul_left d2
  have d4 : q ∣ 1 := (cop257 h257).dvd_of_dvd_mul_left d3
  have : q = 1 := Nat.dvd_one.1 d4
  subst this
  omega
theorem gq_dvd {a b : Nat} (h : gq a = 1) (hd : a ∣ b) : gq b = 1 := by
  obtain ⟨k, rfl⟩ := hd
  exact gq_times h k
/-- No lower power of 2 is 1. -/
theorem gq_ne {d : Nat} (h0 : d ≠ 0) (hd : d < 65535) : gq d ≠ 1 := fun h => by
  have hg := gq_gcd h gq_full
  have hle : Nat.gcd d 65535 ≤ d := Nat.gcd_le_left _ (by omega)
  rcases div_cases (Nat.gcd_dvd_right d 65535) with h1 | h1 | h1 | h1 | h1
  · exact gq_3 (gq_dvd hg h1)
  · exact gq_5 (gq_dvd hg h1)
  · exact gq_17 (gq_dvd hg h1)
  · exact gq_257 (gq_dvd hg h1)
  · omega
theorem gq_inj {i j : Nat} (hi : i < 65535) (hj : j < 65535) (h : gq i = gq j) : i = j := by
  by_cases he : i = j
  · exact he
  exfalso
  rcases Nat.le_total i j with hij | hij
  · exact gq_ne (d := j - i) (by omega) (by omega) (gq_sub hij h)
  · exact gq_ne (d := i - j) (by omega) (by omega) (gq_sub hij h.symm)
theorem gq_wrap (j : Nat) : gq (j % 65535) = gq j := by
  conv => rhs; rw [← Nat.mod_add_div j 65535, ← gq_mul, gq_times gq_full, o16]
/-- So many different numbers below n. -/
theorem nodup_len : ∀ (n : Nat) (l : List Nat), l.Nodup → (∀ x ∈ l, x < n) → l.length ≤ n
  | 0, l, _, h => by
    cases l with
    | nil => exact Nat.le_refl _
    | cons a l => exact absurd (h a (List.mem_cons_self ..)) (by omega)
  | n + 1, l, hd, h => by
    have h1 := nodup_len n (l.erase n) (hd.erase n) fun x hx => by
      have h2 := (hd.mem_erase_iff).1 hx
      have := h x h2.2
      omega
    have h3 : l.length ≤ (l.erase n).length + 1 := by
      by_cases hm : n ∈ l
      · rw [List.length_erase_of_mem hm]; omega
      · rw [List.erase_of_not_mem hm]; omega
    omega
theorem gq_exN (N : Nat) (hN : N = 65535) (a : BitVec 16) (h : a ≠ 0) : ∃ j, j < N ∧ gq j = a := by
  by_cases he : ∃ j, j < N ∧ gq j = a
  · exact he
  exfalso
  have hne : ∀ j, j < N → gq j ≠ a := fun j hj e => he ⟨j, hj, e⟩
  have ht : ∀ x y : BitVec 16, x.toNat = y.toNat → x = y := fun x y => BitVec.eq_of_toNat_eq
  have hl := nodup_len 65536 (0 :: a.toNat :: (List.range N).map fun j => (gq j).toNat) (by
    rw [List.nodup_cons, List.nodup_cons]
    refine ⟨fun hm => ?_, fun hm => ?_, ?_⟩
    · rcases List.mem_cons.1 hm with e | hm
      · exact h (ht _ _ (by rw [← e]; rfl))
      · obtain ⟨j, hj, e⟩ := List.mem_map.1 hm
        exact gq_nz j (ht _ _ (by rw [e]; rfl))
    · obtain ⟨j, hj, e⟩ := List.mem_map.1 hm
      exact hne j (List.mem_range.1 hj) (ht _ _ e)
    · unfold List.Nodup
      rw [List.pairwise_map]
      refine List.Pairwise.imp_of_mem (R := (· < ·)) (fun {x y} hx hy hxy e => ?_) List.pairwise_lt_range
      have := gq_inj (by have := List.mem_range.1 hx; omega) (by have := List.mem_range.1 hy; omega) (ht _ _ e)
      omega) fun x hx => by
        rcases List.mem_cons.1 hx with rfl | hx
        · decide
        rcases List.mem_cons.1 hx with rfl | hx
        · exact a.isLt
        obtain ⟨j, hj, rfl⟩ := List.mem_map.1 hx
        exact (gq j).isLt
  simp only [List.length_cons, List.length_map, List.length_range] at hl
  omega
theorem gq_ex (a : BitVec 16) (h : a ≠ 0) : ∃ j, j < 65535 ∧ gq j = a := gq_exN 65535 rfl a h
theorem mul_gq (i j : Nat) : (⟨gq i⟩ : El 16) * ⟨gq j⟩ = ⟨gq (i + j)⟩ := El.ext (gq_mul i j)
/-- The step of New. -/
theorem mxb16 : ∀ s : BitVec 16, (mx r16 s).toNat = if 65535 < 2 * s.toNat then (2 * s.toNat) ^^^ 65581 else 2 * s.toNat := by
  intro s
  have hs := s.isLt
  unfold mx
  by_cases h : s.msb
  · have h1 : 32768 ≤ s.toNat := by
      have := BitVec.msb_eq_decide s; rw [h] at this; simpa using this.symm
    rw [if_pos h, if_pos (by omega), BitVec.toNat_xor, BitVec.toNat_shiftLeft, Nat.shiftLeft_eq]
    have h2 : s.toNat * 2 ^ 1 % 2 ^ 16 = (2 * s.toNat) ^^^ 65536 := by
      have e1 : s.toNat * 2 ^ 1 % 2 ^ 16 = 2 * s.toNat - 65536 := by omega
      rw [e1]
      obtain ⟨u, hu⟩ : ∃ u, 2 * s.toNat = 65536 + u := ⟨2 * s.toNat - 65536, by omega⟩
      have e2 : 65536 + u = 65536 ^^^ u := by
        rw [show (65536 : Nat) = 2 ^ 16 from rfl]
        have : u < 2 ^ 16 := by omega
        have h3 := Nat.two_pow_add_eq_or_of_lt this 1
        rw [Nat.mul_one] at h3
        rw [h3]
        refine Nat.eq_of_testBit_eq fun t => ?_
        rw [Nat.testBit_or, Nat.testBit_xor, Nat.testBit_two_pow]
        by_cases ht : 16 = t
        · subst ht
          rw [Nat.testBit_lt_two_pow this]; simp
        · simp [ht]
      rw [hu, Nat.add_sub_cancel_left, e2, Nat.xor_comm 65536 u, Nat.xor_assoc, Nat.xor_self, Nat.xor_zero]
    rw [h2]
    rw [Nat.xor_assoc]
    rfl
  · have h1 : s.toNat < 32768 := by
      have := BitVec.msb_eq_decide s
      simp only [Bool.not_eq_true] at h
      rw [h] at this
      simpa using this.symm
    rw [if_neg h, if_neg (by omega), BitVec.toNat_shiftLeft, Nat.shiftLeft_eq]
    omega
end Go.Fw

/- Series and polynomials over the two fields. Plain maths. -/
set_option linter.unusedVariables false
set_option linter.unusedSectionVars false
namespace Go.Fw
variable {n : Nat}

/-- Coefficients. -/
structure Ps (n : Nat) where
  c : Nat → El n
theorem Ps.ext {f g : Ps n} (h : ∀ i, f.c i = g.c i) : f = g := by cases f; cases g; congr 1; exact funext h
def Ps.sh (f : Ps n) : Ps n := ⟨fun i => f.c (i + 1)⟩
instance : Add (Ps n) := ⟨fun f g => ⟨fun i => f.c i + g.c i⟩⟩
instance : Zero (Ps n) := ⟨⟨fun _ => 0⟩⟩
theorem Ps.add_c (f g : Ps n) (i : Nat) : (f + g).c i = f.c i + g.c i := rfl
theorem Ps.zero_c (i : Nat) : (0 : Ps n).c i = 0 := rfl
theorem Ps.add_comm (f g : Ps n) : f + g = g + f := Ps.ext fun i => El.add_comm _ _
theorem Ps.add_assoc (f g h : Ps n) : f + g + h = f + (g + h) := Ps.ext fun i => El.add_assoc _ _ _
instance : Std.Commutative (α := Ps n) (· + ·) := ⟨Ps.add_comm⟩
instance : Std.Associative (α := Ps n) (· + ·) := ⟨Ps.add_assoc⟩
theorem Ps.add_self (f : Ps n) : f + f = 0 := Ps.ext fun i => El.add_self _
theorem Ps.add_zero (f : Ps n) : f + 0 = f := Ps.ext fun i => El.add_zero _
theorem Ps.zero_add (f : Ps n) : 0 + f = f := Ps.ext fun i => El.zero_add _
theorem Ps.add_cancel (f g : Ps n) : f + g + g = f := by rw [Ps.add_assoc, Ps.add_self, Ps.add_zero]
theorem Ps.eq_of_add {f g : Ps n} (h : f + g = 0) : f = g := by
  have := Ps.add_cancel f g
  rw [h, Ps.zero_add] at this
  exact this.symm
variable [F : Fd n]
def mc (f g : Ps n) : Nat → El n
  | 0 => f.c 0 * g.c 0
  | k + 1 => f.c 0 * g.c (k + 1) + mc f.sh g k
instance : Mul (Ps n) := ⟨fun f g => ⟨mc f g⟩⟩
instance : One (Ps n) := ⟨⟨fun i => if i = 0 then 1 else 0⟩⟩
/-- A constant. -/
def Ps.C (a : El n) : Ps n := ⟨fun i => if i = 0 then a else 0⟩
theorem Ps.mul_0 (f g : Ps n) : (f * g).c 0 = f.c 0 * g.c 0 := rfl
theorem Ps.mul_s (f g : Ps n) (k : Nat) : (f * g).c (k + 1) = f.c 0 * g.c (k + 1) + (f.sh * g).c k := rfl
theorem Ps.sh_c (f : Ps n) (i : Nat) : f.sh.c i = f.c (i + 1) := rfl
theorem Ps.mul_add_c (f g h : Ps n) : ∀ k, (f * (g + h)).c k = (f * g).c k + (f * h).c k := by
  intro k
  induction k generalizing f with
  | zero => exact El.mul_add _ _ _
  | succ k ih => simp only [Ps.mul_s, ih, Ps.add_c, El.mul_add]; ac_rfl
theorem Ps.add_mul_c (f g h : Ps n) : ∀ k, ((f + g) * h).c k = (f * h).c k + (g * h).c k := by
  intro k
  induction k generalizing f g with
  | zero => exact El.add_mul _ _ _
  | succ k ih =>
    simp only [Ps.mul_s, Ps.add_c, El.add_mul]
    rw [show (f + g).sh = f.sh + g.sh from rfl, ih]
    ac_rfl
theorem Ps.mul_add (f g h : Ps n) : f * (g + h) = f * g + f * h := Ps.ext (Ps.mul_add_c f g h)
theorem Ps.add_mul (f g h : Ps n) : (f + g) * h = f * h + g * h := Ps.ext (Ps.add_mul_c f g h)
theorem Ps.mul_s' (f g : Ps n) (k : Nat) : (f * g).c (k + 1) = f.c (k + 1) * g.c 0 + (f * g.sh).c k := by
  induction k generalizing f with
  | zero => simp only [Ps.mul_s, Ps.mul_0, Ps.sh_c]; exact El.add_comm _ _
  | succ k ih => rw [Ps.mul_s, ih, Ps.mul_s f g.sh]; simp only [Ps.sh_c]; ac_rfl
theorem Ps.mul_comm (f g : Ps n) : f * g = g * f := by
  refine Ps.ext fun k => ?_
  induction k generalizing f g with
  | zero => exact El.mul_comm _ _
  | succ k ih => rw [Ps.mul_s, Ps.mul_s', ih, El.mul_comm]
theorem Ps.smul_c (a : El n) (f g : Ps n) : ∀ k, ((⟨fun i => a * f.c i⟩ : Ps n) * g).c k = a * (f * g).c k := by
  intro k
  induction k generalizing f with
  | zero => exact El.mul_assoc _ _ _
  | succ k ih =>
    rw [Ps.mul_s, Ps.mul_s, El.mul_add]
    rw [show (⟨fun i => a * f.c i⟩ : Ps n).sh = ⟨fun i => a * f.sh.c i⟩ from rfl, ih, El.mul_assoc]
theorem Ps.sh_mul (f g : Ps n) : (f * g).sh = (⟨fun i => f.c 0 * g.sh.c i⟩ : Ps n) + f.sh * g := Ps.ext fun k => rfl
theorem Ps.mul_assoc (f g h : Ps n) : f * g * h = f * (g * h) := by
  refine Ps.ext fun k => ?_
  induction k generalizing f g h with
  | zero => exact El.mul_assoc _ _ _
  | succ k ih =>
    rw [Ps.mul_s, Ps.sh_mul, Ps.add_mul, Ps.add_c, Ps.smul_c, ih, Ps.mul_s f, Ps.mul_s g, El.mul_add, Ps.mul_0, El.mul_assoc, El.add_assoc]
instance : Std.Commutative (α := Ps n) (· * ·) := ⟨Ps.mul_comm⟩
instance : Std.Associative (α := Ps n) (· * ·) := ⟨Ps.mul_assoc⟩
theorem Ps.zero_mul (f : Ps n) : 0 * f = 0 := by
  have h := Ps.add_mul 0 0 f
  rw [Ps.add_self, Ps.add_self] at h
  exact h
theorem Ps.mul_zero (f : Ps n) : f * 0 = 0 := by rw [Ps.mul_comm, Ps.zero_mul]
theorem Ps.C_mul (a : El n) (f : Ps n) (k : Nat) : (Ps.C a * f).c k = a * f.c k := by
  cases k with
  | zero => rfl
  | succ k =>
    rw [Ps.mul_s, show (Ps.C a : Ps n).sh = 0 from Ps.ext fun i => by show (if i + 1 = 0 then a else 0) = 0; simp, Ps.zero_mul, Ps.zero_c, El.add_zero]; rfl
theorem Ps.one_mul (f : Ps n) : 1 * f = f := Ps.ext fun k => by
  rw [show (1 : Ps n) = Ps.C 1 from rfl, Ps.C_mul, El.one_mul]
theorem Ps.mul_one (f : Ps n) : f * 1 = f := by rw [Ps.mul_comm, Ps.one_mul]
/-- X times f -/
def Ps.X (f : Ps n) : Ps n := ⟨fun i => match i with | 0 => 0 | i + 1 => f.c i⟩
theorem Ps.X_mul (f g : Ps n) : f.X * g = (f * g).X := Ps.ext fun k => by
  cases k with
  | zero => exact El.zero_mul _
  | succ k => rw [Ps.mul_s]; show 0 * _ + (f * g).c k = _; rw [El.zero_mul, El.zero_add]; rfl
theorem Ps.split (f : Ps n) : f = Ps.C (f.c 0) + f.sh.X := Ps.ext fun k => by
  cases k with
  | zero => show f.c 0 = f.c 0 + 0; rw [El.add_zero]
  | succ k => show f.c (k + 1) = 0 + f.c (k + 1); rw [El.zero_add]

/-! Degrees -/
/-- f's degree is below d. -/
def Dg (f : Ps n) (d : Nat) : Prop := ∀ i, d ≤ i → f.c i = 0
theorem Dg.mono {f : Ps n} {d e : Nat} (h : Dg f d) (hd : d ≤ e) : Dg f e := fun i hi => h i (by omega)
theorem Dg.add {f g : Ps n} {d : Nat} (hf : Dg f d) (hg : Dg g d) : Dg (f + g) d := fun i hi => by rw [Ps.add_c, hf i hi, hg i hi, El.add_zero]
theorem Dg.zero {f : Ps n} (h : Dg f 0) : f = 0 := Ps.ext fun i => h i (by omega)
theorem Dg.sh {f : Ps n} {d : Nat} (h : Dg f (d + 1)) : Dg f.sh d := fun i hi => h (i + 1) (by omega)
theorem Dg.mul {f g : Ps n} : ∀ {a b : Nat}, Dg f a → Dg g b → Dg (f * g) (a + b - 1)
  | 0, b, hf, hg => by rw [hf.zero, Ps.zero_mul]; exact fun i _ => rfl
  | a + 1, b, hf, hg => fun i hi => by
    cases i with
    | zero =>
      have : b = 0 := by omega
      subst this
      rw [hg.zero, Ps.mul_zero]; rfl
    | succ i =>
      rw [Ps.mul_s, hg (i + 1) (by omega), El.mul_zero, El.zero_add]
      exact Dg.mul hf.sh hg i (by omega)
/-! Values -/
def evn (f : Ps n) (x : El n) : Nat → El n
  | 0 => 0
  | d + 1 => f.c 0 + x * evn f.sh x d
theorem evn_zero (x : El n) : ∀ d, evn (0 : Ps n) x d = 0
  | 0 => rfl
  | d + 1 => by show 0 + x * evn (0 : Ps n) x d = 0; rw [evn_zero x d, El.mul_zero, El.add_zero]
theorem evn_add (x : El n) : ∀ (d : Nat) (f g : Ps n), evn (f + g) x d = evn f x d + evn g x d
  | 0, f, g => (El.add_zero 0).symm
  | d + 1, f, g => by
    show f.c 0 + g.c 0 + x * evn (f.sh + g.sh) x d = f.c 0 + x * evn f.sh x d + (g.c 0 + x * evn g.sh x d)
    rw [evn_add x d, El.mul_add]; ac_rfl
theorem evn_more {f : Ps n} {x : El n} : ∀ {d : Nat} (e : Nat), Dg f d → evn f x (d + e) = evn f x d
  | 0, e, h => by rw [h.zero, evn_zero, evn_zero]
  | d + 1, e, h => by
    rw [show d + 1 + e = (d + e) + 1 by omega]
    show f.c 0 + x * evn f.sh x (d + e) = f.c 0 + x * evn f.sh x d
    rw [evn_more e h.sh]
theorem evn_eq {f : Ps n} {x : El n} {d e : Nat} (hd : Dg f d) (he : Dg f e) : evn f x d = evn f x e := by
  rcases Nat.le_total d e with h | h
  · have := evn_more (x := x) (e - d) hd
    rw [show d + (e - d) = e by omega] at this
    exact this.symm
  · have := evn_more (x := x) (d - e) he
    rw [show e + (d - e) = d by omega] at this
    exact this
theorem evn_smul (a x : El n) : ∀ (d : Nat) (f : Ps n), evn (⟨fun i => a * f.c i⟩ : Ps n) x d = a * evn f x d
  | 0, f => (El.mul_zero a).symm
  | d + 1, f => by
    show a * f.c 0 + x * evn (⟨fun i => a * f.sh.c i⟩ : Ps n) x d = a * (f.c 0 + x * evn f.sh x d)
    rw [evn_smul a x d, El.mul_add]; ac_rfl
theorem evn_mul (x : El n) : ∀ {a b : Nat} {f g : Ps n}, Dg f a → Dg g b → evn (f * g) x (a + b) = evn f x a * evn g x b
  | 0, b, f, g, hf, hg => by rw [hf.zero, Ps.zero_mul, evn_zero, evn_zero, El.zero_mul]
  | a + 1, b, f, g, hf, hg => by
    rw [show a + 1 + b = (a + b) + 1 by omega]
    show f.c 0 * g.c 0 + x * evn (f * g).sh x (a + b) = (f.c 0 + x * evn f.sh x a) * evn g x b
    rw [Ps.sh_mul, evn_add, evn_smul, evn_mul x hf.sh hg]
    have hg1 : evn g x b = g.c 0 + x * evn g.sh x (a + b) := by
      have := evn_more (x := x) (a + 1) hg
      rw [← this, show b + (a + 1) = (a + b) + 1 by omega]; rfl
    have e : f.c 0 * evn g x b = f.c 0 * g.c 0 + x * (f.c 0 * evn g.sh x (a + b)) := by rw [hg1, El.mul_add]; ac_rfl
    rw [El.add_mul, El.mul_add, e]
    ac_rfl

/-! Lists -/
def co (l : List (El n)) : Ps n := ⟨fun i => l.getD i 0⟩
theorem co_dg (l : List (El n)) : Dg (co l) l.length := fun i hi => by
  show l.getD i 0 = 0
  rw [List.getD_eq_getElem?_getD, List.getElem?_eq_none hi]; rfl
theorem co_get (l : List (El n)) {i : Nat} (h : i < l.length) : (co l).c i = l[i] := by
  show l.getD i 0 = _
  rw [List.getD_eq_getElem?_getD, List.getElem?_eq_getElem h]; rfl
theorem co_ext {l m : List (El n)} (hl : l.length = m.length) (h : co l = co m) : l = m := by
  refine List.ext_getElem hl fun i h1 h2 => ?_
  rw [← co_get l h1, ← co_get m h2, h]
theorem co_take {l : List (El n)} {k : Nat} (h : ∀ i, k ≤ i → (co l).c i = 0) : co (l.take k) = co l := Ps.ext fun i => by
  by_cases hi : i < k
  · show (l.take k).getD i 0 = l.getD i 0
    rw [List.getD_eq_getElem?_getD, List.getElem?_take, if_pos hi, List.getD_eq_getElem?_getD]
  · rw [h i (by omega)]
    exact co_dg (l.take k) i (by simp; omega)
theorem co_append_zeros (l : List (El n)) (k : Nat) : co (l ++ List.replicate k 0) = co l := Ps.ext fun i => by
  show (l ++ List.replicate k 0).getD i 0 = l.getD i 0
  simp only [List.getD_eq_getElem?_getD, List.getElem?_append, List.getElem?_replicate]
  split
  · rfl
  · rename_i h
    rw [List.getElem?_eq_none (by omega)]
    split <;> rfl
/-- The length without the zeros at the end. -/
def tln : List (El n) → Nat
  | [] => 0
  | x :: l => if tln l = 0 then (if x = 0 then 0 else 1) else tln l + 1
theorem tln_le : ∀ l : List (El n), tln l ≤ l.length
  | [] => Nat.le_refl _
  | x :: l => by have := tln_le l; unfold tln; simp only [List.length_cons]; split <;> (try split) <;> omega
theorem tln_dg : ∀ l : List (El n), Dg (co l) (tln l)
  | [] => fun i _ => rfl
  | x :: l => fun i hi => by
    have ih := tln_dg l
    unfold tln at hi
    cases i with
    | zero =>
      split at hi
      · split at hi
        · rename_i h; exact h
        · omega
      · omega
    | succ i =>
      show (co l).c i = 0
      refine ih i ?_
      split at hi
      · omega
      · omega
theorem tln_top : ∀ (l : List (El n)) (k : Nat), tln l = k + 1 → (co l).c k ≠ 0
  | [], k, h => by simp [tln] at h
  | x :: l, k, h => by
    unfold tln at h
    split at h
    · split at h
      · omega
      · rename_i h2
        have : k = 0 := by omega
        subst this
        exact h2
    · have : k = tln l - 1 + 1 := by omega
      rw [this]
      exact tln_top l (tln l - 1) (by omega)
theorem tln_of {l : List (El n)} {k : Nat} (h1 : Dg (co l) k) (h2 : k = 0 ∨ (co l).c (k - 1) ≠ 0) : tln l = k := by
  rcases Nat.lt_trichotomy (tln l) k with h | h | h
  · rcases h2 with h2 | h2
    · omega
    · exact absurd (tln_dg l (k - 1) (by omega)) h2
  · exact h
  · exact absurd (h1 (tln l - 1) (by omega)) (tln_top l (tln l - 1) (by omega))
/-- without the zeros at the end -/
def tr (l : List (El n)) : List (El n) := l.take (tln l)
theorem tr_co (l : List (El n)) : co (tr l) = co l := co_take (tln_dg l)
theorem tr_len (l : List (El n)) : (tr l).length = tln l := by unfold tr; rw [List.length_take]; have := tln_le l; omega
theorem tln_co {l m : List (El n)} (h : co l = co m) : tln l = tln m := by
  refine tln_of (by rw [h]; exact tln_dg m) ?_
  by_cases h0 : tln m = 0
  · exact Or.inl h0
  · right; rw [h]; exact tln_top m _ (by omega)
theorem tr_eq {l m : List (El n)} (h : co l = co m) : tr l = tr m := co_ext (by rw [tr_len, tr_len, tln_co h]) (by rw [tr_co, tr_co, h])
theorem tr_tr (l : List (El n)) : tr (tr l) = tr l := tr_eq (tr_co l)
/-- The first m coefficients. -/
def ofc (m : Nat) (f : Ps n) : List (El n) := (List.range m).map f.c
theorem ofc_len (m : Nat) (f : Ps n) : (ofc m f).length = m := by simp [ofc]
theorem ofc_co {m : Nat} {f : Ps n} (h : Dg f m) : co (ofc m f) = f := Ps.ext fun i => by
  by_cases hi : i < m
  · rw [co_get _ (by rw [ofc_len]; exact hi)]; simp [ofc]
  · rw [h i (by omega)]; exact co_dg _ i (by rw [ofc_len]; omega)
/-- x X^i -/
def Ps.mono (i : Nat) (x : El n) : Ps n := ⟨fun k => if k = i then x else 0⟩
theorem co_set (l : List (El n)) {i : Nat} (h : i < l.length) (x : El n) (k : Nat) : (co (l.set i x)).c k = if k = i then x else (co l).c k := by
  show (l.set i x).getD k 0 = _
  rw [List.getD_eq_getElem?_getD, List.getElem?_set]
  by_cases hk : k = i
  · subst hk; rw [if_pos rfl, if_pos h, if_pos rfl]; rfl
  · rw [if_neg (fun e => hk e.symm), if_neg hk]; rfl
theorem co_replicate (m : Nat) : co (List.replicate m (0 : El n)) = 0 := Ps.ext fun k => by
  show (List.replicate m (0 : El n)).getD k 0 = 0
  rw [List.getD_eq_getElem?_getD, List.getElem?_replicate]
  split <;> rfl
/-- The formal derivative. -/
def Ps.D (f : Ps n) : Ps n := ⟨fun i => if i % 2 = 0 then f.c (i + 1) else 0⟩
/-- The value, by Horner. -/
def evl : List (El n) → El n → El n
  | [], _ => 0
  | a :: l, x => a + x * evl l x
theorem evl_co (x : El n) : ∀ l : List (El n), evl l x = evn (co l) x l.length
  | [] => rfl
  | a :: l => by
    show a + x * evl l x = (co (a :: l)).c 0 + x * evn (co (a :: l)).sh x l.length
    rw [evl_co x l]; rfl
theorem evl_drop (x : El n) (l : List (El n)) {k : Nat} (h : k < l.length) : evl (l.drop k) x = l[k] + x * evl (l.drop (k + 1)) x := by
  rw [List.drop_eq_getElem_cons h]; rfl
/-- X + x -/
def lin (x : El n) : Ps n := ⟨fun k => if k = 0 then x else if k = 1 then 1 else 0⟩
theorem lin_mul (x : El n) (p : Ps n) (k : Nat) : (lin x * p).c k = x * p.c k + (if k = 0 then 0 else p.c (k - 1)) := by
  have e : (lin x : Ps n) = Ps.C x + Ps.X 1 := Ps.ext fun i => by
    show (if i = 0 then x else if i = 1 then 1 else 0) = (if i = 0 then x else 0) + (match i with | 0 => 0 | i + 1 => (if i = 0 then 1 else 0))
    rcases i with _ | _ | i
    · simp [El.add_zero]
    · simp [El.zero_add]
    · simp [El.zero_add]
  rw [e, Ps.add_mul, Ps.add_c, Ps.C_mul, Ps.X_mul, Ps.one_mul]
  cases k <;> rfl
/-- The product of all X + x. -/
def vps (l : List (El n)) : Ps n := l.foldl (fun p x => lin x * p) 1
theorem vps_take (l : List (El n)) {i : Nat} (h : i < l.length) : vps (l.take (i + 1)) = lin l[i] * vps (l.take i) := by
  unfold vps
  rw [List.take_add_one, List.getElem?_eq_getElem h, List.foldl_append]
  rfl
theorem lin_dg (x : El n) : Dg (lin x) 2 := fun i hi => by show (if i = 0 then x else if i = 1 then (1 : El n) else 0) = 0; rw [if_neg (by omega), if_neg (by omega)]
end Go.Fw
