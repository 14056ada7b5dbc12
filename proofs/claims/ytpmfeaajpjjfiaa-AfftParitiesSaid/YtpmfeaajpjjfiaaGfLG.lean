/- The values elsewhere of the polynomial that has given values on one coset. Plain maths. -/
import Derived.Test.YtpmfeaajpjjfiaaGfWG
set_option linter.all false
set_option linter.unusedVariables false
namespace Go.Fw
theorem itI_sh {a o : Nat} : ∀ {k : Nat} (f : Nat → El 16), o % 2 ^ k = 0 → ∀ i, itI a k f (o + i) = itI (a + o) k (fun j => f (o + j)) i := by
  intro k f ho i
  have h := itF_sh (a := a) (o := o) (k := k) (itI a k f) ho
  have e1 : (fun j => f (o + j)) = itF (a + o) k (fun j => itI a k f (o + j)) := funext fun j => by
    rw [← h j, itF_itI]
  rw [e1, itI_itF]
theorem esum_flat (m : Nat) (g : Nat → El 16) : ∀ q, esum (q * m) g = esum q (fun p => esum m (fun i => g (p * m + i)))
  | 0 => by rw [Nat.zero_mul]; rfl
  | q + 1 => by rw [Nat.add_mul, Nat.one_mul, esum_append, esum_flat m g q]; rfl
theorem evX_add (k n : Nat) (f g : Nat → El 16) (x : El 16) : evX k n (fun i => f i + g i) x = evX k n f x + evX k n g x := by
  unfold evX
  rw [← esum_add]
  exact esum_congr fun i _ => El.add_mul _ _ _
theorem evX_smul (k n : Nat) (c : El 16) (f : Nat → El 16) (x : El 16) : evX k n (fun i => c * f i) x = c * evX k n f x := by
  unfold evX
  rw [← esum_mul]
  exact esum_congr fun i _ => El.mul_assoc _ _ _
theorem evX_esum (k n q : Nat) (g : Nat → Nat → El 16) (x : El 16) : evX k n (fun i => esum q (fun p => g p i)) x = esum q (fun p => evX k n (g p) x) := by
  induction q with
  | zero =>
    unfold evX
    exact esum_zero fun i _ => by show 0 * _ = 0; exact El.zero_mul _
  | succ q ih =>
    show evX k n (fun i => esum q (fun p => g p i) + g q i) x = esum q _ + evX k n (g q) x
    rw [evX_add, ih]
theorem wel_add_pow {a h : Nat} {k : Nat} (ha : a % 2 ^ (k + 1) = 0) (hb : a + 2 ^ k < 65536) : sV k (wel (a + 2 ^ k)) = sV k (wel a) + 1 := by
  have h0 := Nat.two_pow_pos k
  obtain ⟨q, hq⟩ := Nat.dvd_of_mod_eq_zero ha
  have e : a = 2 ^ k * (2 * q) := by rw [hq, Nat.pow_succ, Nat.mul_assoc]
  rw [sV_wel k _ hb, sV_wel k a (by omega)]
  rw [Nat.shiftRight_eq_div_pow, Nat.shiftRight_eq_div_pow, Nat.add_div_right _ h0, e, Nat.mul_div_cancel_left _ h0, ← wel_one, ← wel_xor]
  congr 1
  refine Nat.eq_of_testBit_eq fun t => ?_
  cases t with
  | zero => simp
  | succ t =>
    rw [Nat.testBit_xor]
    simp only [Nat.testBit_succ]
    rw [show (2 * q).succ / 2 = q by omega, show 2 * q / 2 = q by omega, show 1 / 2 = 0 by rfl]
    simp
/-- Lagrange's formula over a coset: the derivative of s_k is 1. -/
theorem lagrange (x : El 16) : ∀ (k a : Nat) (f : Nat → El 16), a % 2 ^ k = 0 → a + 2 ^ k ≤ 65536 → (∀ i, i < 2 ^ k → x + wel (a + i) ≠ 0) →
    evX k (2 ^ k) (itI a k f) x = (sV k x + sV k (wel a)) * esum (2 ^ k) (fun i => f i * (x + wel (a + i)).inv) := by
  intro k
  induction k with
  | zero =>
    intro a f _ _ hx
    have h := hx 0 (by decide)
    rw [Nat.add_zero] at h
    show 0 + f 0 * 1 = (x + wel a) * (0 + f 0 * (x + wel (a + 0)).inv)
    rw [El.zero_add, El.zero_add, El.mul_one, Nat.add_zero, show (x + wel a) * (f 0 * (x + wel a).inv) = f 0 * ((x + wel a) * (x + wel a).inv) by ac_rfl, El.mul_inv _ h, El.mul_one]
  | succ k ih =>
    intro a f ha hb hx
    have h0 := Nat.two_pow_pos k
    have hp : 2 ^ (k + 1) = 2 * 2 ^ k := by rw [Nat.pow_succ, Nat.mul_comm]
    have hak : a % 2 ^ k = 0 := Nat.mod_eq_zero_of_dvd (Nat.dvd_trans (Nat.pow_dvd_pow 2 (Nat.le_succ k)) (Nat.dvd_of_mod_eq_zero ha))
    have i1 := ih a f hak (by omega) (fun i hi => hx i (by omega))
    have i2 := ih (a + 2 ^ k) (fun j => f (2 ^ k + j)) (by rw [Nat.add_mod_right]; exact hak) (by omega) (fun i hi => by rw [Nat.add_assoc]; exact hx (2 ^ k + i) (by omega))
    have hs := wel_add_pow (h := 0) ha (show a + 2 ^ k < 65536 by omega)
    rw [hs] at i2
    have lo : ∀ j, j < 2 ^ k → itI a (k + 1) f j = itI a k f j + sV k (wel a) * (itI a k f j + itI (a + 2 ^ k) k (fun j => f (2 ^ k + j)) j) := fun j hj => by
      show bin' k a (itI a k f) j = _
      unfold bin'
      rw [Nat.mod_eq_of_lt (show j < 2 * 2 ^ k by omega), if_pos hj, Nat.sub_self, Nat.add_zero, sV_wel k a (by omega), Nat.add_comm j, itI_sh f (Nat.mod_self _)]
    have hi : ∀ j, j < 2 ^ k → itI a (k + 1) f (2 ^ k + j) = itI a k f j + itI (a + 2 ^ k) k (fun j => f (2 ^ k + j)) j := fun j hj => by
      show bin' k a (itI a k f) (2 ^ k + j) = _
      unfold bin'
      rw [Nat.mod_eq_of_lt (show 2 ^ k + j < 2 * 2 ^ k by omega), if_neg (by omega), Nat.add_sub_cancel_left, itI_sh f (Nat.mod_self _)]
    rw [evX_half]
    have e1 : evX k (2 ^ k) (itI a (k + 1) f) x = evX k (2 ^ k) (itI a k f) x + sV k (wel a) * (evX k (2 ^ k) (itI a k f) x + evX k (2 ^ k) (itI (a + 2 ^ k) k (fun j => f (2 ^ k + j))) x) := by
      rw [← evX_add, ← evX_smul, ← evX_add]
      unfold evX
      exact esum_congr fun j hj => by rw [lo j hj]
    have e2 : evX k (2 ^ k) (fun j => itI a (k + 1) f (2 ^ k + j)) x = evX k (2 ^ k) (itI a k f) x + evX k (2 ^ k) (itI (a + 2 ^ k) k (fun j => f (2 ^ k + j))) x := by
      rw [← evX_add]
      unfold evX
      exact esum_congr fun j hj => by dsimp only; rw [hi j hj]
    rw [e1, e2, i1, i2, hp, show 2 * 2 ^ k = 2 ^ k + 2 ^ k by omega, esum_append]
    have e3 : esum (2 ^ k) (fun i => f (2 ^ k + i) * (x + wel (a + (2 ^ k + i))).inv) = esum (2 ^ k) (fun i => f (2 ^ k + i) * (x + wel (a + 2 ^ k + i)).inv) := esum_congr fun i _ => by rw [Nat.add_assoc]
    rw [e3]
    have hsq : sV (k + 1) x + sV (k + 1) (wel a) = (sV k x + sV k (wel a)) * (sV k x + sV k (wel a)) + (sV k x + sV k (wel a)) := by
      show sq1 (sV k x) + sq1 (sV k (wel a)) = _
      rw [← sq1_add]; rfl
    rw [hsq]
    generalize esum (2 ^ k) (fun i => f i * (x + wel (a + i)).inv) = P
    generalize esum (2 ^ k) (fun i => f (2 ^ k + i) * (x + wel (a + 2 ^ k + i)).inv) = R
    generalize sV k x = s
    generalize sV k (wel a) = c
    -- (s+c)P + c((s+c)P + (s+c+1)R) + s((s+c)P + (s+c+1)R) = ((s+c)(s+c) + (s+c)) (P + R)
    have key : ∀ A B : El 16, A + c * (A + B) + s * (A + B) = A + (s + c) * A + (s + c) * B := fun A B => by
      rw [El.mul_add, El.mul_add, El.add_mul, El.add_mul]; ac_rfl
    rw [key]
    generalize hS : s + c = S
    have hS1 : s + (c + 1) = S + 1 := by rw [← hS, El.add_assoc]
    rw [hS1, El.add_mul S 1 R, El.one_mul, El.add_mul, El.mul_add, El.mul_add, El.mul_add]
    simp only [El.mul_assoc]
    ac_rfl
theorem wel_inj {i j : Nat} (hi : i < 65536) (hj : j < 65536) (h : wel i = wel j) : i = j := by
  have := congrArg (fun e : El 16 => bix e.v) h
  simp only [wel, bix_w] at this
  have := congrArg BitVec.toNat this
  simpa [Nat.mod_eq_of_lt hi, Nat.mod_eq_of_lt hj] using this
theorem wel_ne {i j : Nat} (hi : i < 65536) (hj : j < 65536) (h : i ≠ j) : wel i + wel j ≠ 0 := fun e => h (wel_inj hi hj (El.eq_of_add e))
end Go.Fw
