/- Plain maths: the field of 65536 elements, by bits. No program in sight. -/
import Derived.KernelRfl
set_option linter.unusedVariables false
namespace Go.Proofs.Ytcnabolainmaeaa.Pure

abbrev G := BitVec 16
/-- times x, modulo x^16 + x^5 + x^3 + x^2 + 1 (0x1002d). -/
def mx (a : G) : G := if a.msb then (a <<< 1) ^^^ 0x2d#16 else a <<< 1
theorem msb_xor' (a b : G) : (a ^^^ b).msb = (a.msb ^^ b.msb) := by simp
theorem mx_xor (a b : G) : mx (a ^^^ b) = mx a ^^^ mx b := by
  unfold mx
  rw [msb_xor', BitVec.shiftLeft_xor_distrib]
  generalize a <<< 1 = x
  generalize b <<< 1 = y
  cases a.msb <;> cases b.msb
  · rfl
  · show x ^^^ y ^^^ 0x2d#16 = x ^^^ (y ^^^ 0x2d#16); ac_rfl
  · show x ^^^ y ^^^ 0x2d#16 = x ^^^ 0x2d#16 ^^^ y; ac_rfl
  · show x ^^^ y = x ^^^ 0x2d#16 ^^^ (y ^^^ 0x2d#16)
    rw [show x ^^^ 0x2d#16 ^^^ (y ^^^ 0x2d#16) = x ^^^ y ^^^ (0x2d#16 ^^^ 0x2d#16) by ac_rfl, BitVec.xor_self, BitVec.xor_zero]
theorem mx_zero : mx 0 = 0 := by decide +kernel
/-- a times x^i -/
def pw (a : G) : Nat → G
  | 0 => a
  | i + 1 => mx (pw a i)
theorem pw_xor (a b : G) : ∀ i, pw (a ^^^ b) i = pw a i ^^^ pw b i
  | 0 => rfl
  | i + 1 => by simp only [pw, pw_xor a b i, mx_xor]
theorem pw_zero : ∀ i, pw 0 i = 0
  | 0 => rfl
  | i + 1 => by simp only [pw, pw_zero i, mx_zero]
def sel (c : Bool) (a : G) : G := if c then a else 0
theorem sel_xor (c : Bool) (a b : G) : sel c (a ^^^ b) = sel c a ^^^ sel c b := by cases c <;> simp [sel]
theorem sel_bxor (c d : Bool) (a : G) : sel (c ^^ d) a = sel c a ^^^ sel d a := by cases c <;> cases d <;> simp [sel]
/-- The sum of the n first, each taken where its bit is set. -/
def sum (f : Nat → G) : Nat → G
  | 0 => 0
  | n + 1 => sum f n ^^^ f n
theorem sum_congr {f g : Nat → G} : ∀ n, (∀ i, i < n → f i = g i) → sum f n = sum g n
  | 0, _ => rfl
  | n + 1, h => by simp only [sum, sum_congr n (fun i hi => h i (by omega)), h n (by omega)]
theorem sum_xor (f g : Nat → G) : ∀ n, sum (fun i => f i ^^^ g i) n = sum f n ^^^ sum g n
  | 0 => by simp [sum]
  | n + 1 => by simp only [sum, sum_xor f g n]; ac_rfl
def mul (a b : G) : G := sum (fun i => sel (b.getLsbD i) (pw a i)) 16
theorem mul_xor_left (a a' b : G) : mul (a ^^^ a') b = mul a b ^^^ mul a' b := by
  unfold mul
  rw [← sum_xor]
  exact sum_congr 16 fun i _ => by rw [pw_xor, sel_xor]
theorem mul_xor_right (a b b' : G) : mul a (b ^^^ b') = mul a b ^^^ mul a b' := by
  unfold mul
  rw [← sum_xor]
  exact sum_congr 16 fun i _ => by rw [BitVec.getLsbD_xor, sel_bxor]
/-- An additive map. -/
def Add (f : G → G) : Prop := ∀ a b, f (a ^^^ b) = f a ^^^ f b
theorem Add.zero {f : G → G} (h : Add f) : f 0 = 0 := by
  have := h 0 0
  rw [BitVec.xor_self] at this
  rw [BitVec.xor_self] at this
  exact this
theorem Add.comp {f g : G → G} (hf : Add f) (hg : Add g) : Add (fun a => f (g a)) := fun a b => by show f (g (a ^^^ b)) = f (g a) ^^^ f (g b); rw [hg, hf]
theorem Add.xor {f g : G → G} (hf : Add f) (hg : Add g) : Add (fun a => f a ^^^ g a) := fun a b => by show f (a ^^^ b) ^^^ g (a ^^^ b) = f a ^^^ g a ^^^ (f b ^^^ g b); rw [hf, hg]; ac_rfl
theorem Add.sum {f : G → G} (hf : Add f) (g : Nat → G) : ∀ n, f (Pure.sum g n) = Pure.sum (fun i => f (g i)) n
  | 0 => hf.zero
  | n + 1 => by show f (Pure.sum g n ^^^ g n) = Pure.sum (fun i => f (g i)) n ^^^ f (g n); rw [hf, Add.sum hf g n]
theorem add_id : Add (fun a => a) := fun a b => rfl
theorem add_mul_left (b : G) : Add (fun a => mul a b) := fun a a' => mul_xor_left a a' b
theorem add_mul_right (a : G) : Add (fun b => mul a b) := fun b b' => mul_xor_right a b b'
def e (i : Nat) : G := 1#16 <<< i
theorem sum_get (f : Nat → G) (k : Nat) : ∀ n, (sum f n).getLsbD k = (List.range n).foldl (fun b i => b ^^ (f i).getLsbD k) false
  | 0 => by simp [sum]
  | n + 1 => by simp [sum, sum_get f k n, List.range_succ]
theorem e_get (i k : Nat) (hi : i < 16) (hk : k < 16) : (e i).getLsbD k = decide (i = k) := by
  have h : ∀ i, i < 16 → ∀ k, k < 16 → (e i).getLsbD k = decide (i = k) := by decide +kernel
  exact h i hi k hk
theorem sel_get (c : Bool) (a : G) (k : Nat) : (sel c a).getLsbD k = (c && a.getLsbD k) := by cases c <;> simp [sel]
theorem bits_sum (a : G) : a = sum (fun i => sel (a.getLsbD i) (e i)) 16 := by
  refine BitVec.eq_of_getLsbD_eq fun k hk => ?_
  rw [sum_get]
  have h : ∀ i, i < 16 → (sel (a.getLsbD i) (e i)).getLsbD k = (a.getLsbD i && decide (i = k)) := fun i hi => by rw [sel_get, e_get i k hi hk]
  have r : List.range 16 = [0, 1, 2, 3, 4, 5, 6, 7, 8, 9, 10, 11, 12, 13, 14, 15] := by decide
  rw [r]
  simp only [List.foldl_cons, List.foldl_nil, h 0 (by omega), h 1 (by omega), h 2 (by omega), h 3 (by omega), h 4 (by omega), h 5 (by omega), h 6 (by omega), h 7 (by omega), h 8 (by omega), h 9 (by omega), h 10 (by omega), h 11 (by omega), h 12 (by omega), h 13 (by omega), h 14 (by omega), h 15 (by omega)]
  have hk' : k = 0 ∨ k = 1 ∨ k = 2 ∨ k = 3 ∨ k = 4 ∨ k = 5 ∨ k = 6 ∨ k = 7 ∨ k = 8 ∨ k = 9 ∨ k = 10 ∨ k = 11 ∨ k = 12 ∨ k = 13 ∨ k = 14 ∨ k = 15 := by omega
  rcases hk' with rfl | rfl | rfl | rfl | rfl | rfl | rfl | rfl | rfl | rfl | rfl | rfl | rfl | rfl | rfl | rfl <;> simp
theorem Add.sel {f : G → G} (hf : Add f) (c : Bool) (a : G) : f (Pure.sel c a) = Pure.sel c (f a) := by
  cases c
  · exact hf.zero
  · rfl
/-- Two additive maps that agree on the sixteen powers of x are one. -/
theorem Add.ext {f g : G → G} (hf : Add f) (hg : Add g) (h : ∀ i, i < 16 → f (e i) = g (e i)) (a : G) : f a = g a := by
  rw [bits_sum a, hf.sum, hg.sum]
  exact sum_congr 16 fun i hi => by rw [hf.sel, hg.sel, h i hi]
theorem mul_comm (a b : G) : mul a b = mul b a := by
  have h : ∀ i, i < 16 → ∀ j, j < 16 → mul (e i) (e j) = mul (e j) (e i) := by decide +kernel
  refine Add.ext (f := fun a => mul a b) (g := fun a => mul b a) (add_mul_left b) (add_mul_right b) (fun i hi => ?_) a
  exact Add.ext (f := fun b => mul (e i) b) (g := fun b => mul b (e i)) (add_mul_right _) (add_mul_left _) (fun j hj => h i hi j hj) b
theorem mul_assoc (a b c : G) : mul (mul a b) c = mul a (mul b c) := by
  have h : ∀ i, i < 16 → ∀ j, j < 16 → ∀ k, k < 16 → mul (mul (e i) (e j)) (e k) = mul (e i) (mul (e j) (e k)) := by decide +kernel
  refine Add.ext (f := fun a => mul (mul a b) c) (g := fun a => mul a (mul b c)) (Add.comp (add_mul_left c) (add_mul_left b)) (add_mul_left _) (fun i hi => ?_) a
  refine Add.ext (f := fun b => mul (mul (e i) b) c) (g := fun b => mul (e i) (mul b c)) (Add.comp (add_mul_left c) (add_mul_right _)) (Add.comp (add_mul_right _) (add_mul_left c)) (fun j hj => ?_) b
  exact Add.ext (f := fun c => mul (mul (e i) (e j)) c) (g := fun c => mul (e i) (mul (e j) c)) (add_mul_right _) (Add.comp (add_mul_right _) (add_mul_right _)) (fun k hk => h i hi j hj k hk) c
theorem mul_zero (a : G) : mul a 0 = 0 := (add_mul_right a).zero
theorem zero_mul (a : G) : mul 0 a = 0 := (add_mul_left a).zero
theorem mul_one (a : G) : mul a 1 = a := Add.ext (f := fun a => mul a 1) (add_mul_left 1) add_id (by decide +kernel) a
theorem one_mul (a : G) : mul 1 a = a := by rw [mul_comm, mul_one]
def sq (a : G) : G := mul a a
theorem add_sq : Add sq := fun a b => by
  unfold sq
  rw [mul_xor_left, mul_xor_right, mul_xor_right, mul_comm b a]
  have : mul a b ^^^ mul a b = 0 := BitVec.xor_self
  calc mul a a ^^^ mul a b ^^^ (mul a b ^^^ mul b b) = mul a a ^^^ (mul a b ^^^ mul a b) ^^^ mul b b := by ac_rfl
    _ = mul a a ^^^ mul b b := by rw [this]; exact congrArg (· ^^^ mul b b) BitVec.xor_zero
/-- s_i, by s_(i+1) = s_i * s_i + s_i. -/
def sub : Nat → G → G
  | 0, x => x
  | i + 1, x => sq (sub i x) ^^^ sub i x
theorem add_sub : ∀ i, Add (sub i)
  | 0 => fun _ _ => rfl
  | i + 1 => Add.xor (Add.comp add_sq (add_sub i)) (add_sub i)
theorem sub16 (x : G) : sub 16 x = 0 := Add.ext (f := sub 16) (g := fun _ => 0) (add_sub 16) (fun _ _ => by simp) (by decide +kernel) x

/-! the Cantor basis -/
def cb (t : Nat) : G := ([0x0001, 0xacca, 0x3c0e, 0x163e, 0xc582, 0xed2e, 0x914c, 0x4012, 0x6c98, 0x10d8, 0x6a72, 0xb900, 0xfdb8, 0xfb34, 0xff38, 0x991e] : List G).getD t 0
def ci (t : Nat) : G := ([0x0001, 0x4690, 0x65d8, 0x62d0, 0x5734, 0x45f0, 0x53b8, 0x1e38, 0x7cae, 0x4e38, 0x6708, 0xc25c, 0x7a64, 0x9eac, 0x1124, 0x523a] : List G).getD t 0
/-- w(i) -/
def el (i : G) : G := sum (fun t => sel (i.getLsbD t) (cb t)) 16
def ix (a : G) : G := sum (fun t => sel (a.getLsbD t) (ci t)) 16
theorem add_lin (f : Nat → G) : Add (fun a => sum (fun t => sel (a.getLsbD t) (f t)) 16) := fun a b => by
  show sum _ 16 = sum _ 16 ^^^ sum _ 16
  rw [← sum_xor]
  exact sum_congr 16 fun i _ => by rw [BitVec.getLsbD_xor, sel_bxor]
theorem add_el : Add el := add_lin cb
theorem add_ix : Add ix := add_lin ci
theorem ix_el (i : G) : ix (el i) = i := Add.ext (f := fun i => ix (el i)) (Add.comp add_ix add_el) add_id (by decide +kernel) i
theorem el_ix (a : G) : el (ix a) = a := Add.ext (f := fun a => el (ix a)) (Add.comp add_el add_ix) add_id (by decide +kernel) a
theorem add_shr (n : Nat) : Add (fun a => a >>> n) := fun a b => by exact BitVec.ushiftRight_xor_distrib a b n
theorem sub1_el (i : G) : sq (el i) ^^^ el i = el (i >>> 1) :=
  Add.ext (f := fun i => sq (el i) ^^^ el i) (g := fun i => el (i >>> 1)) (Add.xor (Add.comp add_sq add_el) add_el) (Add.comp add_el (add_shr 1)) (by decide +kernel) i
theorem sub_el (j : G) : ∀ i, sub i (el j) = el (j >>> i)
  | 0 => by simp [sub]
  | i + 1 => by
    show sq (sub i (el j)) ^^^ sub i (el j) = _
    rw [sub_el j i, sub1_el, BitVec.shiftRight_add]
theorem el_zero_iff (j : G) : el j = 0 ↔ j = 0 := ⟨fun h => by rw [← ix_el j, h]; exact add_ix.zero, fun h => by rw [h]; exact add_el.zero⟩
end Go.Proofs.Ytcnabolainmaeaa.Pure
