import Derived.Test.YtcnabolainmaeaaGfLM
set_option linter.all false
/- Derivatives, and the products of linear factors. Plain maths. -/
set_option linter.unusedVariables false
set_option linter.unusedSectionVars false
namespace Go.Fw
variable {n : Nat}
def Ps.e (p : Nat) (f : Ps n) : Ps n := ⟨fun k => if (k + p) % 2 = 1 then f.c k else 0⟩
variable [F : Fd n]
theorem Dg.D {f : Ps n} {d : Nat} (h : Dg f d) : Dg f.D d := fun i hi => by
  show (if i % 2 = 0 then f.c (i + 1) else 0) = 0
  rw [h (i + 1) (by omega)]; split <;> rfl
theorem Dg.one : Dg (1 : Ps n) 1 := fun i hi => by show (if i = 0 then (1 : El n) else 0) = 0; rw [if_neg (by omega)]
theorem len_tr {p : List (El n)} (h : tr p = p) : p.length = tln p := by rw [← tr_len, h]
end Go.Fw

/- The polynomials s_i and X_j in powers of x. Plain maths. -/
set_option linter.unusedVariables false
namespace Go.Fw
/-- The square of a series: the squares in the even places. -/
theorem sq_even : ∀ (m : Nat) (f : Ps 16), (f * f).c (2 * m) = f.c m * f.c m ∧ (f * f).c (2 * m + 1) = 0
  | 0, f => by
    refine ⟨rfl, ?_⟩
    show (f * f).c (0 + 1) = 0
    rw [Ps.mul_s]
    show f.c 0 * f.c 1 + f.sh.c 0 * f.c 0 = 0
    rw [Ps.sh_c, El.mul_comm, El.add_self]
  | m + 1, f => by
    have key : ∀ k, (f * f).c (k + 2) = (f.sh * f.sh).c k := fun k => by
      rw [show k + 2 = (k + 1) + 1 by omega, Ps.mul_s, Ps.mul_s']
      rw [Ps.sh_c, El.mul_comm, ← El.add_assoc, El.add_self, El.zero_add]
    have ih := sq_even m f.sh
    rw [show 2 * (m + 1) = 2 * m + 2 by omega, show 2 * m + 2 + 1 = (2 * m + 1) + 2 by omega, key, key]
    exact ih
/-- The coefficient of x^(2^t) in s_i. -/
def lc : Nat → Nat → El 16
  | 0, t => if t = 0 then 1 else 0
  | i + 1, t => lc i t + match t with | 0 => 0 | t + 1 => lc i t * lc i t
def sP (i : Nat) : Ps 16 := ⟨fun n => if n ≠ 0 ∧ 2 ^ Nat.log2 n = n then lc i (Nat.log2 n) else 0⟩
theorem log2_double {m : Nat} (h : m ≠ 0) : Nat.log2 (2 * m) = Nat.log2 m + 1 := by
  have h1 := Nat.log2_self_le h
  have h2 : m < 2 ^ (Nat.log2 m + 1) := Nat.lt_log2_self
  have h3 : 2 * m ≠ 0 := by omega
  have a : Nat.log2 m + 1 ≤ Nat.log2 (2 * m) := (Nat.le_log2 h3).2 (by rw [Nat.pow_succ]; omega)
  have b : Nat.log2 (2 * m) < Nat.log2 m + 2 := (Nat.log2_lt h3).2 (by rw [show Nat.log2 m + 2 = (Nat.log2 m + 1) + 1 by omega, Nat.pow_succ]; omega)
  omega
theorem sP_pow (i t : Nat) : (sP i).c (2 ^ t) = lc i t := by
  have h0 := Nat.two_pow_pos t
  show (if 2 ^ t ≠ 0 ∧ 2 ^ Nat.log2 (2 ^ t) = 2 ^ t then lc i (Nat.log2 (2 ^ t)) else 0) = _
  rw [Nat.log2_two_pow, if_pos ⟨by omega, rfl⟩]
theorem sP_succ (i : Nat) : sP (i + 1) = sP i * sP i + sP i := Ps.ext fun n => by
  rw [Ps.add_c]
  obtain ⟨m, hm⟩ : ∃ m, n = 2 * m ∨ n = 2 * m + 1 := ⟨n / 2, by omega⟩
  rcases hm with rfl | rfl
  · rw [(sq_even m (sP i)).1]
    by_cases h0 : m = 0
    · subst h0
      have z : ∀ i, (sP i).c 0 = 0 := fun i => by
        show (if (0 : Nat) ≠ 0 ∧ 2 ^ Nat.log2 0 = 0 then lc i (Nat.log2 0) else (0 : El 16)) = 0
        rw [if_neg (by simp)]
      show (sP (i + 1)).c 0 = (sP i).c 0 * (sP i).c 0 + (sP i).c 0
      rw [z, z, El.zero_mul, El.add_zero]
    · show (if 2 * m ≠ 0 ∧ 2 ^ Nat.log2 (2 * m) = 2 * m then lc (i + 1) (Nat.log2 (2 * m)) else 0) = (if m ≠ 0 ∧ 2 ^ Nat.log2 m = m then lc i (Nat.log2 m) else 0) * (if m ≠ 0 ∧ 2 ^ Nat.log2 m = m then lc i (Nat.log2 m) else 0) + (if 2 * m ≠ 0 ∧ 2 ^ Nat.log2 (2 * m) = 2 * m then lc i (Nat.log2 (2 * m)) else 0)
      rw [log2_double h0]
      by_cases hp : 2 ^ Nat.log2 m = m
      · rw [if_pos ⟨by omega, by rw [Nat.pow_succ]; omega⟩, if_pos ⟨h0, hp⟩, if_pos ⟨by omega, by rw [Nat.pow_succ]; omega⟩]
        show lc i (Nat.log2 m + 1) + lc i (Nat.log2 m) * lc i (Nat.log2 m) = _
        exact El.add_comm _ _
      · rw [if_neg (fun h => hp (by have := h.2; rw [Nat.pow_succ] at this; omega)), if_neg (fun h => hp h.2), if_neg (fun h => hp (by have := h.2; rw [Nat.pow_succ] at this; omega)), El.zero_mul, El.add_zero]
  · rw [(sq_even m (sP i)).2, El.zero_add]
    by_cases h0 : m = 0
    · subst h0
      have e1 := sP_pow (i + 1) 0
      have e2 := sP_pow i 0
      rw [Nat.pow_zero] at e1 e2
      show (sP (i + 1)).c 1 = (sP i).c 1
      rw [e1, e2]
      exact El.add_zero _
    · have hodd : ¬ (2 ^ Nat.log2 (2 * m + 1) = 2 * m + 1) := fun h => by
        cases hl : Nat.log2 (2 * m + 1) with
        | zero => rw [hl] at h; simp at h; omega
        | succ l => rw [hl, Nat.pow_succ] at h; omega
      show (if 2 * m + 1 ≠ 0 ∧ 2 ^ Nat.log2 (2 * m + 1) = 2 * m + 1 then lc (i + 1) (Nat.log2 (2 * m + 1)) else (0 : El 16)) = if 2 * m + 1 ≠ 0 ∧ 2 ^ Nat.log2 (2 * m + 1) = 2 * m + 1 then lc i (Nat.log2 (2 * m + 1)) else 0
      rw [if_neg (fun h => hodd h.2), if_neg (fun h => hodd h.2)]
theorem sP_zero : sP 0 = Ps.mono 1 1 := Ps.ext fun n => by
  show (if n ≠ 0 ∧ 2 ^ Nat.log2 n = n then (if Nat.log2 n = 0 then (1 : El 16) else 0) else 0) = if n = 1 then 1 else 0
  by_cases h1 : n = 1
  · subst h1; rw [if_pos ⟨by decide, by decide⟩, if_pos (by decide), if_pos rfl]
  · rw [if_neg h1]
    split
    · rename_i h
      rw [if_neg]
      intro hl
      rw [hl] at h
      omega
    · rfl
theorem sP_dg : ∀ i, Dg (sP i) (2 ^ i + 1)
  | 0 => by rw [sP_zero]; intro k hk; show (if k = 1 then (1 : El 16) else 0) = 0; rw [if_neg (by simp at hk; omega)]
  | i + 1 => by
    rw [sP_succ]
    have := Nat.two_pow_pos i
    exact (((sP_dg i).mul (sP_dg i)).mono (by rw [Nat.pow_succ]; omega)).add ((sP_dg i).mono (by rw [Nat.pow_succ]; omega))
theorem sP_top : ∀ i, (sP i).c (2 ^ i) = 1
  | 0 => by rw [sP_zero]; rfl
  | i + 1 => by
    have h0 := Nat.two_pow_pos i
    rw [sP_succ, Ps.add_c, Nat.pow_succ, Nat.mul_two, Ps.mul_top (sP_dg i) (sP_dg i), sP_top i, sP_dg i _ (by omega), El.mul_one, El.add_zero]
/-- X_j, j below 2^k -/
def xP : Nat → Nat → Ps 16
  | 0, _ => 1
  | k + 1, j => if 2 ^ k ≤ j then xP k (j - 2 ^ k) * sP k else xP k j
theorem xP_low {k j : Nat} (h : j < 2 ^ k) : xP (k + 1) j = xP k j := by show (if 2 ^ k ≤ j then _ else _) = _; rw [if_neg (by omega)]
theorem xP_high {k j : Nat} : xP (k + 1) (2 ^ k + j) = xP k j * sP k := by show (if 2 ^ k ≤ 2 ^ k + j then _ else _) = _; rw [if_pos (by omega), Nat.add_sub_cancel_left]
theorem xP_more {k e j : Nat} (h : j < 2 ^ k) : xP (k + e) j = xP k j := by
  induction e with
  | zero => rfl
  | succ e ih =>
    have : 2 ^ k ≤ 2 ^ (k + e) := Nat.pow_le_pow_right (by omega) (by omega)
    rw [← Nat.add_assoc, xP_low (by omega), ih]
theorem xP_dg : ∀ k j, j < 2 ^ k → Dg (xP k j) (j + 1)
  | 0, j, h => by obtain rfl : j = 0 := by simpa using h
                  exact Dg.one
  | k + 1, j, h => by
    rw [Nat.pow_succ] at h
    by_cases hj : j < 2 ^ k
    · rw [xP_low hj]; exact xP_dg k j hj
    · obtain ⟨j, rfl⟩ : ∃ i, j = 2 ^ k + i := ⟨j - 2 ^ k, by omega⟩
      rw [xP_high]
      exact ((xP_dg k j (by omega)).mul (sP_dg k)).mono (by omega)
theorem xP_top : ∀ k j, j < 2 ^ k → (xP k j).c j = 1
  | 0, j, h => by obtain rfl : j = 0 := by simpa using h
                  rfl
  | k + 1, j, h => by
    rw [Nat.pow_succ] at h
    by_cases hj : j < 2 ^ k
    · rw [xP_low hj]; exact xP_top k j hj
    · obtain ⟨j, rfl⟩ : ∃ i, j = 2 ^ k + i := ⟨j - 2 ^ k, by omega⟩
      rw [xP_high, Nat.add_comm (2 ^ k) j, Ps.mul_top (xP_dg k j (by omega)) (sP_dg k), xP_top k j (by omega), sP_top, El.mul_one]
end Go.Fw

/- Lists in the basis X_j as polynomials; the derivative in that basis; s_i as a product over its zeros. Plain maths. -/
set_option linter.unusedVariables false
namespace Go.Fw
theorem pow_le16' {k : Nat} (h : k ≤ 16) : 2 ^ k ≤ 65536 := by have : 2 ^ k ≤ 2 ^ 16 := Nat.pow_le_pow_right (by omega) h; omega
theorem and_pow (n i : Nat) : n &&& 2 ^ i = if n.testBit i then 2 ^ i else 0 := by
  refine Nat.eq_of_testBit_eq fun t => ?_
  rw [Nat.testBit_and, Nat.testBit_two_pow]
  by_cases h : i = t
  · subst h
    by_cases hb : n.testBit i = true
    · rw [if_pos hb, hb, Nat.testBit_two_pow]; simp
    · rw [if_neg hb]; simp at hb; simp [hb]
  · split
    · rw [Nat.testBit_two_pow]
      simp [h]
    · simp [h]
/-- c times f -/
def smP (c : El 16) (f : Ps 16) : Ps 16 := ⟨fun t => c * f.c t⟩
/-- The sum of d j X_j, j below n. -/
def mP (k : Nat) (d : Nat → El 16) : Nat → Ps 16
  | 0 => 0
  | n + 1 => mP k d n + smP (d n) (xP k n)
theorem smP_dg {c : El 16} {f : Ps 16} {n : Nat} (h : Dg f n) : Dg (smP c f) n := fun i hi => by show c * f.c i = 0; rw [h i hi, El.mul_zero]
theorem mP_dg {k : Nat} (d : Nat → El 16) : ∀ n, n ≤ 2 ^ k → Dg (mP k d n) n
  | 0, _ => fun _ _ => rfl
  | n + 1, h => ((mP_dg d n (by omega)).mono (by omega)).add (smP_dg (xP_dg k n (by omega)))
theorem mP_congr {k : Nat} {d e : Nat → El 16} : ∀ {n}, (∀ j, j < n → d j = e j) → mP k d n = mP k e n
  | 0, _ => rfl
  | n + 1, h => by show mP k d n + _ = mP k e n + _; rw [mP_congr fun j hj => h j (by omega), h n (by omega)]
theorem zero_smP (f : Ps 16) : smP 0 f = 0 := Ps.ext fun t => El.zero_mul _
theorem Ps.cancel {f g h : Ps 16} (e : f + h = g + h) : f = g := by
  have := congrArg (fun p => p + h) e
  simp only [Ps.add_assoc, Ps.add_self, Ps.add_zero] at this
  exact this
theorem mP_top {k n : Nat} (d : Nat → El 16) (h : n < 2 ^ k) : (mP k d (n + 1)).c n = d n := by
  show (mP k d n).c n + d n * (xP k n).c n = d n
  rw [mP_dg d n (by omega) n (Nat.le_refl _), xP_top k n h, El.zero_add, El.mul_one]
theorem mP_inj {k : Nat} {d e : Nat → El 16} : ∀ {n}, n ≤ 2 ^ k → mP k d n = mP k e n → ∀ j, j < n → d j = e j
  | 0, _, _, j, hj => by omega
  | n + 1, h, he, j, hj => by
    have ht : d n = e n := by rw [← mP_top d (show n < 2 ^ k by omega), ← mP_top e (show n < 2 ^ k by omega), he]
    by_cases hn : j = n
    · rw [hn, ht]
    · have h2 : mP k d n + smP (d n) (xP k n) = mP k e n + smP (e n) (xP k n) := he
      rw [ht] at h2
      exact mP_inj (by omega) (Ps.cancel h2) j (by omega)
theorem mP_upd {k : Nat} {d e : Nat → El 16} {i : Nat} (h0 : d i = 0) (h : ∀ j, j ≠ i → e j = d j) : ∀ {n}, i < n → mP k e n = mP k d n + smP (e i) (xP k i)
  | n + 1, hi => by
    show mP k e n + smP (e n) _ = mP k d n + smP (d n) _ + _
    by_cases hn : i = n
    · subst hn
      rw [h0, zero_smP, Ps.add_zero, mP_congr fun j hj => h j (by omega)]
    · rw [mP_upd h0 h (by omega), h n (fun e => hn e.symm)]
      refine Ps.ext fun t => ?_
      simp only [Ps.add_c]
      ac_rfl
/-! The derivative. -/
def dX (k : Nat) (d : Nat → El 16) (j : Nat) : El 16 := esum k fun i => if j.testBit i then 0 else d (j + 2 ^ i)
theorem dX_stop {k i j : Nat} (d : Nat → El 16) (hj : j < 2 ^ k) (hi : i ≤ k) (h : 2 ^ k ≤ j + 2 ^ i) : esum i (fun u => if j.testBit u then 0 else d (j + 2 ^ u)) = dX k d j := by
  unfold dX
  obtain ⟨m, rfl⟩ : ∃ m, k = i + m := ⟨k - i, by omega⟩
  rw [esum_append, esum_zero (n := m), El.add_zero]
  intro u hu
  have hx : 2 ^ (i + m) - 1 - j < 2 ^ i := by omega
  have e := Nat.testBit_two_pow_sub_succ (x := 2 ^ (i + m) - 1 - j) (n := i + m) (by omega) (i + u)
  rw [show 2 ^ (i + m) - (2 ^ (i + m) - 1 - j + 1) = j by omega, Nat.testBit_lt_two_pow (Nat.lt_of_lt_of_le hx (Nat.pow_le_pow_right (by omega) (show i ≤ i + u by omega))), decide_eq_true (show i + u < i + m by omega)] at e
  rw [e]; rfl
theorem tln_dg_le {n : Nat} [Fd n] {l : List (El n)} {d : Nat} (h : Dg (co l) d) : tln l ≤ d := by
  rcases Nat.lt_or_ge d (tln l) with hlt | hge
  · exact absurd (h (tln l - 1) (by omega)) (tln_top l (tln l - 1) (by omega))
  · exact hge
end Go.Fw
