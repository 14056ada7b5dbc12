import Derived.Test.YtbaljbadlfopgaaGfLF
import Derived.Test.YtbaljbadlfopgaaGfQF
set_option linter.all false
/- The polynomials s_i and X_j in powers of x. Plain maths. -/
set_option linter.unusedVariables false
namespace Go.Fw
/-- The square of a series: the squares in the even places. -/
theorem sq_even : ∀ (m : Nat) (f : Ps 16), (f * f).c (2 * m) = f.c m * f.c m ∧ (f * f).c (2 * m + 1) = 0
  | 0, f => by
    refine ⟨rfl, ?_⟩
    show (f * f).c (0 + 1) = 0
    rw [Ps.mul_s]
    show f.c 0 * f.c 1 + f.sh.c 0 * f.c 0 = 0
    rw [Ps.sh_c, El.mul_comm, El.add_self]
  | m + 1, f => by
    have key : ∀ k, (f * f).c (k + 2) = (f.sh * f.sh).c k := fun k => by
      rw [show k + 2 = (k + 1) + 1 by omega, Ps.mul_s, Ps.mul_s']
      rw [Ps.sh_c, El.mul_comm, ← El.add_assoc, El.add_self, El.zero_add]
    have ih := sq_even m f.sh
    rw [show 2 * (m + 1) = 2 * m + 2 by omega, show 2 * m + 2 + 1 = (2 * m + 1) + 2 by omega, key, key]
    exact ih
/-- The coefficient of x^(2^t) in s_i. -/
def lc : Nat → Nat → El 16
  | 0, t => if t = 0 then 1 else 0
  | i + 1, t => lc i t + match t with | 0 => 0 | t + 1 => lc i t * lc i t
def sP (i : Nat) : Ps 16 := ⟨fun n => if n ≠ 0 ∧ 2 ^ Nat.log2 n = n then lc i (Nat.log2 n) else 0⟩
theorem log2_double {m : Nat} (h : m ≠ 0) : Nat.log2 (2 * m) = Nat.log2 m + 1 := by
  have h1 := Nat.log2_self_le h
  have h2 : m < 2 ^ (Nat.log2 m + 1) := Nat.lt_log2_self
  have h3 : 2 * m ≠ 0 := by omega
  have a : Nat.log2 m + 1 ≤ Nat.log2 (2 * m) := (Nat.le_log2 h3).2 (by rw [Nat.pow_succ]; omega)
  have b : Nat.log2 (2 * m) < Nat.log2 m + 2 := (Nat.log2_lt h3).2 (by rw [show Nat.log2 m + 2 = (Nat.log2 m + 1) + 1 by omega, Nat.pow_succ]; omega)
  omega
theorem sP_pow (i t : Nat) : (sP i).c (2 ^ t) = lc i t := by
  have h0 := Nat.two_pow_pos t
  show (if 2 ^ t ≠ 0 ∧ 2 ^ Nat.log2 (2 ^ t) = 2 ^ t then lc i (Nat.log2 (2 ^ t)) else 0) = _
  rw [Nat.log2_two_pow, if_pos ⟨by omega, rfl⟩]
theorem sP_succ (i : Nat) : sP (i + 1) = sP i * sP i + sP i := Ps.ext fun n => by
  rw [Ps.add_c]
  obtain ⟨m, hm⟩ : ∃ m, n = 2 * m ∨ n = 2 * m + 1 := ⟨n / 2, by omega⟩
  rcases hm with rfl | rfl
  · rw [(sq_even m (sP i)).1]
    by_cases h0 : m = 0
    · subst h0
      have z : ∀ i, (sP i).c 0 = 0 := fun i => by
        show (if (0 : Nat) ≠ 0 ∧ 2 ^ Nat.log2 0 = 0 then lc i (Nat.log2 0) else (0 : El 16)) = 0
        rw [if_neg (by simp)]
      show (sP (i + 1)).c 0 = (sP i).c 0 * (sP i).c 0 + (sP i).c 0
      rw [z, z, El.zero_mul, El.add_zero]
    · show (if 2 * m ≠ 0 ∧ 2 ^ Nat.log2 (2 * m) = 2 * m then lc (i + 1) (Nat.log2 (2 * m)) else 0) = (if m ≠ 0 ∧ 2 ^ Nat.log2 m = m then lc i (Nat.log2 m) else 0) * (if m ≠ 0 ∧ 2 ^ Nat.log2 m = m then lc i (Nat.log2 m) else 0) + (if 2 * m ≠ 0 ∧ 2 ^ Nat.log2 (2 * m) = 2 * m then lc i (Nat.log2 (2 * m)) else 0)
      rw [log2_double h0]
      by_cases hp : 2 ^ Nat.log2 m = m
      · rw [if_pos ⟨by omega, by rw [Nat.pow_succ]; omega⟩, if_pos ⟨h0, hp⟩, if_pos ⟨by omega, by rw [Nat.pow_succ]; omega⟩]
        show lc i (Nat.log2 m + 1) + lc i (Nat.log2 m) * lc i (Nat.log2 m) = _
        exact El.add_comm _ _
      · rw [if_neg (fun h => hp (by have := h.2; rw [Nat.pow_succ] at this; omega)), if_neg (fun h => hp h.2), if_neg (fun h => hp (by have := h.2; rw [Nat.pow_succ] at this; omega)), El.zero_mul, El.add_zero]
  · rw [(sq_even m (sP i)).2, El.zero_add]
    by_cases h0 : m = 0
    · subst h0
      have e1 := sP_pow (i + 1) 0
      have e2 := sP_pow i 0
      rw [Nat.pow_zero] at e1 e2
      show (sP (i + 1)).c 1 = (sP i).c 1
      rw [e1, e2]
      exact El.add_zero _
    · have hodd : ¬ (2 ^ Nat.log2 (2 * m + 1) = 2 * m + 1) := fun h => by
        cases hl : Nat.log2 (2 * m + 1) with
        | zero => rw [hl] at h; simp at h; omega
        | succ l => rw [hl, Nat.pow_succ] at h; omega
      show (if 2 * m + 1 ≠ 0 ∧ 2 ^ Nat.log2 (2 * m + 1) = 2 * m + 1 then lc (i + 1) (Nat.log2 (2 * m + 1)) else (0 : El 16)) = if 2 * m + 1 ≠ 0 ∧ 2 ^ Nat.log2 (2 * m + 1) = 2 * m + 1 then lc i (Nat.log2 (2 * m + 1)) else 0
      rw [if_neg (fun h => hodd h.2), if_neg (fun h => hodd h.2)]
theorem sP_zero : sP 0 = Ps.mono 1 1 := Ps.ext fun n => by
  show (if n ≠ 0 ∧ 2 ^ Nat.log2 n = n then (if Nat.log2 n = 0 then (1 : El 16) else 0) else 0) = if n = 1 then 1 else 0
  by_cases h1 : n = 1
  · subst h1; rw [if_pos ⟨by decide, by decide⟩, if_pos (by decide), if_pos rfl]
  · rw [if_neg h1]
    split
    · rename_i h
      rw [if_neg]
      intro hl
      rw [hl] at h
      omega
    · rfl
theorem sP_dg : ∀ i, Dg (sP i) (2 ^ i + 1)
  | 0 => by rw [sP_zero]; intro k hk; show (if k = 1 then (1 : El 16) else 0) = 0; rw [if_neg (by simp at hk; omega)]
  | i + 1 => by
    rw [sP_succ]
    have := Nat.two_pow_pos i
    exact (((sP_dg i).mul (sP_dg i)).mono (by rw [Nat.pow_succ]; omega)).add ((sP_dg i).mono (by rw [Nat.pow_succ]; omega))
theorem sP_top : ∀ i, (sP i).c (2 ^ i) = 1
  | 0 => by rw [sP_zero]; rfl
  | i + 1 => by
    have h0 := Nat.two_pow_pos i
    rw [sP_succ, Ps.add_c, Nat.pow_succ, Nat.mul_two, Ps.mul_top (sP_dg i) (sP_dg i), sP_top i, sP_dg i _ (by omega), El.mul_one, El.add_zero]
theorem ev_mono (x : El 16) : evn (Ps.mono 1 1 : Ps 16) x 2 = x := by
  show (0 : El 16) + x * (1 + x * 0) = x
  rw [El.mul_zero, El.add_zero, El.mul_one, El.zero_add]
theorem sP_ev (x : El 16) : ∀ i d, 2 ^ i + 1 ≤ d → evn (sP i) x d = sV i x
  | 0, d, h => by
    rw [evn_eq (((sP_dg 0)).mono (by simpa using h)) (sP_dg 0), sP_zero]
    exact ev_mono x
  | i + 1, d, h => by
    have h0 := Nat.two_pow_pos i
    have hd2 : Dg (sP i * sP i) (2 ^ i + 1 + (2 ^ i + 1)) := ((sP_dg i).mul (sP_dg i)).mono (by omega)
    rw [evn_eq ((sP_dg (i + 1)).mono h) ((sP_dg (i + 1)).mono (show 2 ^ (i + 1) + 1 ≤ 2 ^ i + 1 + (2 ^ i + 1) by rw [Nat.pow_succ]; omega)), sP_succ, evn_add, evn_mul x (sP_dg i) (sP_dg i), sP_ev x i _ (by omega), sP_ev x i _ (by omega)]
    rfl
end Go.Fw
