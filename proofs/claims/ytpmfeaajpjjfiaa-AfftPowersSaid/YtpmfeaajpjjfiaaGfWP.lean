import Derived.Test.YtpmfeaajpjjfiaaSS14rP
import Derived.Test.YtpmfeaajpjjfiaaGfPP
set_option linter.all false
/- Powers of two; an element by its four digits. Plain maths. -/
set_option linter.unusedVariables false
namespace Go.Fw
/-- Is n a power of two from 1 to 65536? -/
def isP (n : Int) : Bool := decide (1 ≤ n ∧ n ≤ 65536 ∧ n.toNat &&& (n.toNat - 1) = 0)
theorem and_pred_pow (k : Nat) : 2 ^ k &&& (2 ^ k - 1) = 0 := by
  rw [Nat.and_two_pow_sub_one_eq_mod, Nat.mod_self]
theorem pow_of_and : ∀ (m n : Nat), n ≤ m → n ≠ 0 → n &&& (n - 1) = 0 → ∃ k, n = 2 ^ k := by
  intro m
  induction m with
  | zero => intro n h h0; omega
  | succ m ih =>
    intro n hn h0 h
    by_cases h1 : n % 2 = 1
    · have e : n = 1 := by
        refine Classical.byContradiction fun hne => ?_
        have h3 := congrArg (fun z => z / 2) h
        simp only [Nat.zero_div] at h3
        rw [Nat.and_div_two, show (n - 1) / 2 = n / 2 by omega, Nat.and_self] at h3
        omega
      exact ⟨0, e⟩
    · have h3 := congrArg (fun z => z / 2) h
      simp only [Nat.zero_div] at h3
      rw [Nat.and_div_two, show (n - 1) / 2 = n / 2 - 1 by omega] at h3
      obtain ⟨k, hk⟩ := ih (n / 2) (by omega) (by omega) h3
      exact ⟨k + 1, by rw [Nat.pow_succ, ← hk]; omega⟩
theorem isP_iff (n : Int) : isP n = true ↔ ∃ k : Nat, k ≤ 16 ∧ n = ((2 ^ k : Nat) : Int) := by
  unfold isP
  rw [decide_eq_true_iff]
  constructor
  · rintro ⟨h1, h2, h3⟩
    obtain ⟨k, hk⟩ := pow_of_and n.toNat n.toNat (Nat.le_refl _) (by omega) h3
    refine ⟨k, Nat.le_of_not_lt fun hlt => ?_, by omega⟩
    have : 2 ^ 17 ≤ 2 ^ k := Nat.pow_le_pow_right (by omega) hlt
    omega
  · rintro ⟨k, hk, rfl⟩
    have h1 := Nat.two_pow_pos k
    have h2 : 2 ^ k ≤ 2 ^ 16 := Nat.pow_le_pow_right (by omega) hk
    refine ⟨by omega, by omega, ?_⟩
    rw [Int.toNat_natCast]; exact and_pred_pow k
/-- The element of a number -/
def eN (n : Nat) : El 16 := ⟨BitVec.ofNat 16 n⟩
theorem eN_v (n : Nat) (h : n < 65536) : (eN n).v.toNat = n := by simp [eN]; omega
theorem eN_xor (a b : Nat) : eN (a ^^^ b) = eN a + eN b := El.ext (BitVec.ofNat_xor ..)
theorem eN_zero : eN 0 = 0 := rfl
theorem badd_and (m : BitVec 16) : BAdd (fun a : BitVec 16 => a &&& m) := fun a b => by
  apply BitVec.eq_of_getLsbD_eq; intro i hi
  simp only [BitVec.getLsbD_and, BitVec.getLsbD_xor]
  cases a.getLsbD i <;> cases b.getLsbD i <;> cases m.getLsbD i <;> rfl
theorem badd_shl (k : Nat) : BAdd (fun a : BitVec 16 => a <<< k) := fun a b => BitVec.shiftLeft_xor_distrib a b k
theorem digits (x : BitVec 16) : (x &&& 15#16) ^^^ (((x >>> 4) &&& 15#16) <<< 4) ^^^ (((x >>> 8) &&& 15#16) <<< 8) ^^^ ((x >>> 12) <<< 12) = x :=
  BAdd.ext (f := fun x => (x &&& 15#16) ^^^ (((x >>> 4) &&& 15#16) <<< 4) ^^^ (((x >>> 8) &&& 15#16) <<< 8) ^^^ ((x >>> 12) <<< 12))
    (BAdd.xor (BAdd.xor (BAdd.xor (badd_and _) (BAdd.comp (badd_shl 4) (BAdd.comp (badd_and _) (badd_shr 16 4)))) (BAdd.comp (badd_shl 8) (BAdd.comp (badd_and _) (badd_shr 16 8)))) (BAdd.comp (badd_shl 12) (badd_shr 16 12))) badd_id (by decide +kernel) x
/-- What the table of the n-th digit holds at x. -/
def want (c : El 16) (n x : Nat) : El 16 := c * eN (x <<< (4 * n))
theorem want_digits (c x : El 16) : want c 0 (x.v.toNat &&& 15) + want c 1 ((x.v.toNat >>> 4) &&& 15) + want c 2 ((x.v.toNat >>> 8) &&& 15) + want c 3 (x.v.toNat >>> 12) = c * x := by
  unfold want
  rw [← El.mul_add, ← El.mul_add, ← El.mul_add]
  congr 1
  apply El.ext
  rw [← eN_xor, ← eN_xor, ← eN_xor]
  have h := congrArg BitVec.toNat (digits x.v)
  have hx := x.v.isLt
  simp only [BitVec.toNat_xor, BitVec.toNat_and, BitVec.toNat_shiftLeft, BitVec.toNat_ushiftRight, BitVec.toNat_ofNat] at h
  apply BitVec.eq_of_toNat_eq
  show (BitVec.ofNat 16 _).toNat = _
  rw [BitVec.toNat_ofNat]
  have a1 : (x.v.toNat >>> 4) &&& 15 < 2 ^ 4 := Nat.and_lt_two_pow _ (by decide)
  have a2 : (x.v.toNat >>> 8) &&& 15 < 2 ^ 4 := Nat.and_lt_two_pow _ (by decide)
  have a3 : x.v.toNat >>> 12 < 2 ^ 4 := by rw [Nat.shiftRight_eq_div_pow]; omega
  have e1 : ((x.v.toNat >>> 4) &&& 15) <<< 4 % 2 ^ 16 = ((x.v.toNat >>> 4) &&& 15) <<< 4 := Nat.mod_eq_of_lt (by rw [Nat.shiftLeft_eq]; omega)
  have e2 : ((x.v.toNat >>> 8) &&& 15) <<< 8 % 2 ^ 16 = ((x.v.toNat >>> 8) &&& 15) <<< 8 := Nat.mod_eq_of_lt (by rw [Nat.shiftLeft_eq]; omega)
  have e3 : (x.v.toNat >>> 12) <<< 12 % 2 ^ 16 = (x.v.toNat >>> 12) <<< 12 := Nat.mod_eq_of_lt (by rw [Nat.shiftLeft_eq]; omega)
  have e4 : 15 % 2 ^ 16 = 15 := rfl
  rw [e4, e1, e2, e3] at h
  show ((x.v.toNat &&& 15) <<< 0 ^^^ ((x.v.toNat >>> 4) &&& 15) <<< 4 ^^^ ((x.v.toNat >>> 8) &&& 15) <<< 8 ^^^ (x.v.toNat >>> 12) <<< 12) % 2 ^ 16 = _
  rw [Nat.shiftLeft_zero, h, Nat.mod_eq_of_lt hx]
theorem want_step (c : El 16) (n : Nat) : ∀ (j low : Nat), j < 4 → low < 2 ^ j → want c n (2 ^ j + low) = want c n (2 ^ j) + want c n low := by
  intro j low hj hl
  have key : ∀ j < 4, ∀ low < 2 ^ j, 2 ^ j + low = 2 ^ j ^^^ low := by decide
  unfold want
  rw [key j hj low hl, Nat.shiftLeft_xor_distrib, eN_xor, El.mul_add]
theorem want_zero (c : El 16) (n : Nat) : want c n 0 = 0 := by unfold want; rw [Nat.zero_shiftLeft, eN_zero, El.mul_zero]
theorem co_app {n : Nat} [Fd n] (l r : List (El n)) (i : Nat) : (co (l ++ r)).c i = if i < l.length then (co l).c i else (co r).c (i - l.length) := by
  show (l ++ r).getD i 0 = if i < l.length then l.getD i 0 else r.getD (i - l.length) 0
  simp only [List.getD_eq_getElem?_getD]
  by_cases h : i < l.length
  · rw [if_pos h, List.getElem?_append_left h]
  · rw [if_neg h, List.getElem?_append_right (by omega)]
theorem co_drop {n : Nat} [Fd n] (l : List (El n)) (o i : Nat) : (co (l.drop o)).c i = (co l).c (o + i) := by
  show (l.drop o).getD i 0 = l.getD (o + i) 0
  simp only [List.getD_eq_getElem?_getD, List.getElem?_drop]
theorem co_takeL {n : Nat} [Fd n] (l : List (El n)) (o i : Nat) : (co (l.take o)).c i = if i < o then (co l).c i else 0 := by
  show (l.take o).getD i 0 = if i < o then l.getD i 0 else 0
  simp only [List.getD_eq_getElem?_getD, List.getElem?_take]
  split
  · rfl
  · rfl
end Go.Fw
