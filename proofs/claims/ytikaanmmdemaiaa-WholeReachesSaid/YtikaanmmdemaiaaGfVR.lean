/- The basis X_j of layer 13 and its values. Plain maths. -/
import Derived.Test.YtikaanmmdemaiaaGfFR
set_option linter.all false
set_option linter.unusedVariables false
namespace Go.Fw
/-- x -> x * x + x -/
def sq1 (x : El 16) : El 16 := x * x + x
/-- s_i at x -/
def sV : Nat → El 16 → El 16
  | 0, x => x
  | i + 1, x => sq1 (sV i x)
theorem sV_sq1 (i : Nat) (x : El 16) : sV i (sq1 x) = sV (i + 1) x := by
  induction i with
  | zero => rfl
  | succ i ih => show sq1 (sV i (sq1 x)) = _; rw [ih]; rfl
theorem sV_wel (i j : Nat) (h : j < 65536) : sV i (wel j) = wel (j >>> i) := by
  induction i with
  | zero => rfl
  | succ i ih =>
    show sq1 (sV i (wel j)) = _
    rw [ih]
    have h2 : j >>> i < 65536 := by rw [Nat.shiftRight_eq_div_pow]; exact Nat.lt_of_le_of_lt (Nat.div_le_self _ _) h
    unfold sq1
    rw [wel_shr _ h2, ← Nat.shiftRight_add]
/-- X_j at x: by the bits of j, the lowest first; k bits of them. -/
def xV : Nat → Nat → El 16 → El 16
  | 0, _, _ => 1
  | k + 1, j, x => (if j % 2 = 1 then x else 1) * xV k (j / 2) (sq1 x)
/-- The sum of the first n of g -/
def esum (n : Nat) (g : Nat → El 16) : El 16 := match n with | 0 => 0 | n + 1 => esum n g + g n
theorem esum_congr {n : Nat} {f g : Nat → El 16} (h : ∀ i, i < n → f i = g i) : esum n f = esum n g := by
  induction n with
  | zero => rfl
  | succ n ih => show esum n f + f n = esum n g + g n; rw [ih (fun i hi => h i (by omega)), h n (by omega)]
theorem esum_add (n : Nat) (f g : Nat → El 16) : esum n (fun i => f i + g i) = esum n f + esum n g := by
  induction n with
  | zero => exact (El.add_zero 0).symm
  | succ n ih => show esum n _ + (f n + g n) = (esum n f + f n) + (esum n g + g n); rw [ih]; ac_rfl
theorem esum_mul (n : Nat) (c : El 16) (f : Nat → El 16) : esum n (fun i => c * f i) = c * esum n f := by
  induction n with
  | zero => exact (El.mul_zero c).symm
  | succ n ih => show esum n _ + _ = c * (esum n f + f n); rw [ih, El.mul_add]
theorem esum_append (n m : Nat) (f : Nat → El 16) : esum (n + m) f = esum n f + esum m (fun i => f (n + i)) := by
  induction m with
  | zero => exact (El.add_zero _).symm
  | succ m ih => show esum (n + m) f + f (n + m) = esum n f + (esum m _ + f (n + m)); rw [ih]; ac_rfl
theorem esum_zero {n : Nat} {f : Nat → El 16} (h : ∀ i, i < n → f i = 0) : esum n f = 0 := by
  rw [esum_congr (g := fun _ => 0) h]
  induction n with
  | zero => rfl
  | succ n ih => show esum n _ + 0 = 0; rw [ih (fun i hi => h i (by omega)), El.add_zero]
theorem xV_zero (k : Nat) (x : El 16) : xV k 0 x = 1 := by
  induction k generalizing x with
  | zero => rfl
  | succ k ih => show (if 0 % 2 = 1 then x else 1) * xV k (0 / 2) (sq1 x) = 1; rw [if_neg (by decide), Nat.zero_div, ih, El.mul_one]
theorem xV_more (k m : Nat) : ∀ (j : Nat) (x : El 16), j < 2 ^ k → xV (k + m) j x = xV k j x := by
  induction k with
  | zero =>
    intro j x hj
    obtain rfl : j = 0 := by simpa using hj
    rw [xV_zero, xV_zero]
  | succ k ih =>
    intro j x hj
    rw [show k + 1 + m = (k + m) + 1 by omega]
    show _ * xV (k + m) (j / 2) (sq1 x) = _ * xV k (j / 2) (sq1 x)
    rw [ih (j / 2) (sq1 x) (by rw [Nat.pow_succ] at hj; omega)]
/-- The highest bit is a factor s_k. -/
theorem xV_top (k : Nat) : ∀ (j : Nat) (x : El 16), j < 2 ^ k → xV (k + 1) (2 ^ k + j) x = xV k j x * sV k x := by
  induction k with
  | zero =>
    intro j x hj
    obtain rfl : j = 0 := by simpa using hj
    show (if (2 ^ 0 + 0) % 2 = 1 then x else 1) * 1 = 1 * x
    rw [if_pos (by decide), El.mul_one, El.one_mul]
  | succ k ih =>
    intro j x hj
    show (if (2 ^ (k + 1) + j) % 2 = 1 then x else 1) * xV (k + 1) ((2 ^ (k + 1) + j) / 2) (sq1 x) = ((if j % 2 = 1 then x else 1) * xV k (j / 2) (sq1 x)) * sV (k + 1) x
    rw [Nat.pow_succ] at hj ⊢
    rw [show (2 ^ k * 2 + j) / 2 = 2 ^ k + j / 2 by omega, ih (j / 2) (sq1 x) (by omega), sV_sq1, show (2 ^ k * 2 + j) % 2 = j % 2 by omega]
    exact (El.mul_assoc _ _ _).symm
/-- The value at x of the sum of f j X_j, j below n (at most 2^k). -/
def evX (k n : Nat) (f : Nat → El 16) (x : El 16) : El 16 := esum n fun j => f j * xV k j x
theorem evX_half (k : Nat) (f : Nat → El 16) (x : El 16) : evX (k + 1) (2 ^ (k + 1)) f x = evX k (2 ^ k) f x + sV k x * evX k (2 ^ k) (fun j => f (2 ^ k + j)) x := by
  unfold evX
  rw [Nat.pow_succ, Nat.mul_two, esum_append, ← esum_mul]
  congr 1
  · exact esum_congr fun j hj => by rw [xV_more k 1 j x hj]
  · exact esum_congr fun j hj => by rw [xV_top k j x hj]; dsimp only; ac_rfl
/-- The transform's values are the polynomial's. -/
theorem itF_ev (a : Nat) : ∀ (k : Nat) (f : Nat → El 16) (i : Nat), a % 2 ^ k = 0 → a + 2 ^ k ≤ 65536 → i < 2 ^ k → itF a k f i = evX k (2 ^ k) f (wel (a + i)) := by
  intro k
  induction k generalizing a with
  | zero =>
    intro f i _ _ hi
    obtain rfl : i = 0 := by simpa using hi
    show f 0 = 0 + f 0 * 1
    rw [El.zero_add, El.mul_one]
  | succ k ih =>
    intro f i ha hb hi
    have h0 : 0 < 2 ^ k := Nat.two_pow_pos k
    have hp : 2 ^ (k + 1) = 2 * 2 ^ k := by rw [Nat.pow_succ, Nat.mul_comm]
    rw [hp] at hi ha hb
    have had : ∃ q, a = 2 * 2 ^ k * q := ⟨a / (2 * 2 ^ k), by have := Nat.div_add_mod a (2 * 2 ^ k); omega⟩
    obtain ⟨q, hq⟩ := had
    have hs : ∀ j, j < 2 ^ k → (a + j) >>> k = 2 * q ∧ (a + (2 ^ k + j)) >>> k = 2 * q + 1 := by
      intro j hj
      rw [Nat.shiftRight_eq_div_pow, Nat.shiftRight_eq_div_pow]
      constructor
      · rw [show a + j = j + 2 ^ k * (2 * q) by rw [hq]; rw [Nat.mul_comm 2 (2 ^ k), Nat.mul_assoc, Nat.add_comm], Nat.add_mul_div_left _ _ h0, Nat.div_eq_of_lt hj]; omega
      · rw [show a + (2 ^ k + j) = j + 2 ^ k * (2 * q + 1) by rw [hq, Nat.mul_add, Nat.mul_comm 2 (2 ^ k), Nat.mul_assoc]; omega, Nat.add_mul_div_left _ _ h0, Nat.div_eq_of_lt hj]; omega
    have hodd : wel (2 * q + 1) = wel (2 * q) + 1 := by
      rw [← wel_one, ← wel_xor]
      congr 1
      refine Nat.eq_of_testBit_eq fun t => ?_
      cases t with
      | zero => simp
      | succ t =>
        rw [Nat.testBit_xor]
        simp only [Nat.testBit_succ]
        rw [show (2 * q + 1) / 2 = q by omega, show 2 * q / 2 = q by omega, show 1 / 2 = 0 by rfl]
        simp
    have hk : a % 2 ^ k = 0 := by rw [hq, Nat.mul_comm 2 (2 ^ k), Nat.mul_assoc, Nat.mul_mod_right]
    rw [evX_half]
    show itF a k (bfn k a f) i = _
    by_cases hl : i < 2 ^ k
    · rw [ih a (bfn k a f) i hk (by omega) hl, sV_wel k (a + i) (by omega), (hs i hl).1]
      unfold evX
      rw [← esum_mul, ← esum_add]
      refine esum_congr fun j hj => ?_
      unfold bfn
      rw [Nat.mod_eq_of_lt (show j < 2 * 2 ^ k by omega), if_pos hj, Nat.sub_self, Nat.add_zero, El.add_mul]
      have := (hs 0 h0).1
      rw [Nat.add_zero] at this
      rw [this, Nat.add_comm j]
      dsimp only
      ac_rfl
    · obtain ⟨i, rfl⟩ : ∃ j, i = 2 ^ k + j := ⟨i - 2 ^ k, by omega⟩
      have hi2 : i < 2 ^ k := by omega
      rw [itF_sh (bfn k a f) (Nat.mod_self _) i, ih (a + 2 ^ k) _ i (by rw [Nat.add_mod_right]; exact hk) (by omega) hi2, show a + 2 ^ k + i = a + (2 ^ k + i) by omega, sV_wel k _ (by omega), (hs i hi2).2, hodd]
      unfold evX
      rw [← esum_mul, ← esum_add]
      refine esum_congr fun j hj => ?_
      unfold bfn
      dsimp only
      rw [Nat.mod_eq_of_lt (show 2 ^ k + j < 2 * 2 ^ k by omega), if_neg (by omega), Nat.sub_self, Nat.add_zero]
      have := (hs 0 h0).1
      rw [Nat.add_zero] at this
      rw [this, show 2 ^ k + j - 2 ^ k = j by omega, El.add_mul, El.add_mul, El.add_mul, El.one_mul]
      ac_rfl
end Go.Fw
