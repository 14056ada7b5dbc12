/- What the program's product, subspace polynomials and elements compute: the field's. -/
import Derived.Test.YtcnabolainmaeaaPureGf
import Derived.Laws.BitsLemmas
import Derived.Laws.BitsAllLaws
import Derived.Laws.Bits64
import Derived.Test.YtcnabolainmaeaaPAx1
import Derived.Test.YtcnabolainmaeaaPAx2
import Derived.Test.YtcnabolainmaeaaPAx3
set_option linter.unusedVariables false
namespace Go.Proofs.Ytcnabolainmaeaa.Pure
open Go.RowKit Go.Proofs.Ytcnabolainmaeaa.PA Go.Proofs.YtcnabolainmaeaaW.PrintWords Go.Proofs.YtcnabolainmaeaaW.PrintLast Go.Proofs.YtcnabolainmaeaaW.PrintMore

theorem w64 {n : Int} (h0 : -9223372036854775808 ≤ n) (h1 : n ≤ 9223372036854775807) : wrap64 n = n := by unfold wrap64; omega
theorem ev_mk {α : Type} {g : Nat → Option α} {r : α} (K : Nat) (h : ∀ k, K ≤ k → g k = some r) : Ev g r := ⟨K, h⟩
theorem ev_const {α : Type} {g : Nat → Option α} {r : α} (h : ∀ k, g k = some r) : Ev g r := ⟨0, fun k _ => h k⟩
theorem ev_eq {α : Type} {g : Nat → Option α} {r q : α} (h : Ev g r) (e : r = q) : Ev g q := e ▸ h
theorem ev_bind {α β : Type} {g : Nat → Option α} {f : Nat → α → Option β} {a : α} {r : β} {F : Nat → Option β} (hF : ∀ k, F k = (g k).bind (f k)) (h : Ev g a) (k : Ev (fun n => f n a) r) : Ev F r :=
  Ev.congr hF (Ev.bind h k)
theorem wu64 {n : Int} (h0 : 0 ≤ n) (h1 : n < 18446744073709551616) : IntKind.u64.wrap n = n := by
  simp [IntKind.wrap, IntKind.bits, IntKind.signed]; omega
theorem wu16 {n : Int} (h0 : 0 ≤ n) (h1 : n < 65536) : IntKind.u16.wrap n = n := by
  simp [IntKind.wrap, IntKind.bits, IntKind.signed]; omega
/-- A field element as the program's number. -/
def num (a : G) : Int := (a.toNat : Int)
theorem num_lt (a : G) : 0 ≤ num a ∧ num a < 65536 := by have := a.isLt; unfold num; omega
theorem num_of {n : Int} (h0 : 0 ≤ n) (h1 : n < 65536) : num (BitVec.ofNat 16 n.toNat) = n := by
  unfold num; rw [BitVec.toNat_ofNat]; omega
theorem of_num (a : G) : BitVec.ofNat 16 (num a).toNat = a := by unfold num; simp
theorem num_inj {a b : G} (h : num a = num b) : a = b := by unfold num at h; exact BitVec.eq_of_toNat_eq (by omega)
theorem num_xor (a b : G) : Go.bits .xor .u16 (num a) (num b) = num (a ^^^ b) := by
  unfold num; rw [u16_xor_nat _ _ a.isLt b.isLt, BitVec.toNat_xor]
theorem num_zero_iff (a : G) : num a = 0 ↔ a = 0 := ⟨fun h => num_inj (by rw [h]; rfl), fun h => by rw [h]; rfl⟩

/-! the degree of what is below 65536 -/
theorem len64_hi (k : Nat) (x : Int) (h0 : 256 ≤ x) (h1 : x < 65536) : bits_Len64.j0 (k + 1) x 0 = bits_Len64.j0 1 (256 * (x / 256)) 0 := by
  unfold bits_Len64.j0
  dsimp only
  rw [if_neg (show ¬ x ≥ 65536 by omega), if_neg (show ¬ 256 * (x / 256) ≥ 65536 by omega), if_pos (show x ≥ 256 by omega), if_pos (show 256 * (x / 256) ≥ 256 by omega), show 256 * (x / 256) / 256 = x / 256 by omega]
theorem len64_lo (k : Nat) (x : Int) (h0 : 0 ≤ x) (h1 : x < 256) : bits_Len64.j0 (k + 1) x 0 = bits_Len64.j0 1 x 0 := rfl
theorem len64_a : ∀ q : Nat, q < 256 → (match bits_Len64.j0 1 (q : Int) 0 with | some n => decide (0 ≤ n) && decide (n ≤ 16) | none => false) = true := by decide +kernel
theorem len64_b : ∀ q : Nat, q < 256 → (match bits_Len64.j0 1 (256 * (q : Int)) 0 with | some n => decide (0 ≤ n) && decide (n ≤ 16) | none => false) = true := by decide +kernel
theorem len64_ev (x : Int) (h0 : 0 ≤ x) (h1 : x < 65536) : ∃ n, 0 ≤ n ∧ n ≤ 16 ∧ Ev (fun k => bits_Len64.f k x) n := by
  have hf : ∀ k, bits_Len64.f k x = bits_Len64.j0 k x 0 := fun k => by unfold bits_Len64.f; rw [if_neg (by omega)]
  have key : ∃ y : Int, (match bits_Len64.j0 1 y 0 with | some n => decide (0 ≤ n) && decide (n ≤ 16) | none => false) = true ∧ ∀ k, bits_Len64.j0 (k + 1) x 0 = bits_Len64.j0 1 y 0 := by
    by_cases h : 256 ≤ x
    · refine ⟨256 * (x / 256), ?_, fun k => len64_hi k x h h1⟩
      have := len64_b (x / 256).toNat (by omega)
      rwa [Int.toNat_of_nonneg (by omega)] at this
    · refine ⟨x, ?_, fun k => len64_lo k x h0 (by omega)⟩
      have := len64_a x.toNat (by omega)
      rwa [Int.toNat_of_nonneg h0] at this
  obtain ⟨y, hy, hk⟩ := key
  cases hq : bits_Len64.j0 1 y 0 with
  | none => rw [hq] at hy; cases hy
  | some n =>
    rw [hq] at hy
    simp only [Bool.and_eq_true, decide_eq_true_eq] at hy
    exact ⟨n, hy.1, hy.2, Ev.congr hf (Ev.step (fun k => by rw [hk, hq]) (Ev.now n))⟩
theorem deg_p : Ev (fun k => ring_Degree.f k 65581) 16 := Ev.of (fun k => ring_Degree.mono _ k) (k := 5) (by decide +kernel)
theorem deg_ev (x : Int) (h0 : 0 ≤ x) (h1 : x < 65536) : ∃ n, n < 16 ∧ -1 ≤ n ∧ Ev (fun k => ring_Degree.f k x) n := by
  obtain ⟨n, h2, h3, h⟩ := len64_ev x h0 h1
  refine ⟨n - 1, by omega, by omega, ev_bind (fun k => by unfold ring_Degree.f; rfl) h (ev_const fun k => ?_)⟩
  rw [w64 (by omega) (by omega)]
theorem divMod_ev (x : Int) (h0 : 0 ≤ x) (h1 : x < 65536) : Ev (fun k => ring_divMod.f k x 65581) (0, x) := by
  obtain ⟨n, h2, h3, h⟩ := deg_ev x h0 h1
  refine ev_bind (fun k => by unfold ring_divMod.f; rfl) deg_p ?_
  refine Ev.step (fun k => by simp only [ring_divMod.l0]; rfl) (Ev.bind h (ev_const fun k => ?_))
  rw [w64 (n := n - 16) (by omega) (by omega), if_pos (by omega)]

/-! the product -/
def horner (a b : G) : Nat → G → G
  | 0, r => r
  | n + 1, r => horner a b n (mx r ^^^ sel (b.getLsbD n) a)
theorem pw_mx (a : G) : ∀ n, pw (mx a) n = pw a (n + 1)
  | 0 => rfl
  | n + 1 => by show mx (pw (mx a) n) = mx (pw a (n + 1)); rw [pw_mx a n]
theorem pw_sel (c : Bool) (a : G) (n : Nat) : pw (sel c a) n = sel c (pw a n) := by
  cases c
  · exact pw_zero n
  · rfl
theorem horner_eq (a b : G) : ∀ n r, horner a b n r = pw r n ^^^ sum (fun i => sel (b.getLsbD i) (pw a i)) n
  | 0, r => by simp [horner, pw, sum]
  | n + 1, r => by
    simp only [horner, horner_eq a b n, sum, pw_xor, pw_mx, pw_sel]
    ac_rfl
theorem horner_mul (a b : G) : horner a b 16 0 = mul a b := by rw [horner_eq, pw_zero]; exact BitVec.zero_xor
theorem bit_u64 (x n : Nat) (hx : x < 18446744073709551616) (hn : n ≤ 64) : Go.bits .and .u64 (shr .u64 (x : Int) (n : Int)) 1 = ((x / 2 ^ n % 2 : Nat) : Int) := by
  have e : shr .u64 (x : Int) (n : Int) = ((x / 2 ^ n : Nat) : Int) := by
    unfold shr
    rw [Int.toNat_natCast, Nat.min_eq_left (by exact hn)]
    rw [show ((2 : Int) ^ n) = ((2 ^ n : Nat) : Int) by simp]; rfl
  have hd : x / 2 ^ n ≤ x := Nat.div_le_self _ _
  rw [e, show (1 : Int) = ((1 : Nat) : Int) from rfl, u64_and_nat _ _ (by omega) (by omega), Nat.and_one_is_mod]
theorem bit_i64 (x n : Nat) (hx : x < 65536) (hn : n ≤ 64) : Go.bits .and .i64 (shr .i64 (x : Int) (n : Int)) 1 = ((x / 2 ^ n % 2 : Nat) : Int) := by
  have e : shr .i64 (x : Int) (n : Int) = ((x / 2 ^ n : Nat) : Int) := by
    unfold shr
    rw [Int.toNat_natCast, Nat.min_eq_left (by exact hn)]
    rw [show ((2 : Int) ^ n) = ((2 ^ n : Nat) : Int) by simp]; rfl
  have hd : x / 2 ^ n ≤ x := Nat.div_le_self _ _
  rw [e, show (1 : Int) = ((1 : Nat) : Int) from rfl, (bits_nat .i64 62 (by decide) (fun n h0 h1 => by rw [IntKind.wrap_i64]; omega) (x / 2 ^ n) 1 (by omega) (by omega)).1, Nat.and_one_is_mod]
theorem bit_get (b : G) (n : Nat) : b.getLsbD n = decide (b.toNat / 2 ^ n % 2 = 1) := by
  rw [← BitVec.testBit_toNat, Nat.testBit_eq_decide_div_mod_eq]
theorem mx_num (r : G) : num (mx r) = (if r.msb then ((2 * r.toNat ^^^ 65581 : Nat) : Int) else ((2 * r.toNat : Nat) : Int)) := by
  have hr := r.isLt
  unfold num mx
  have hm : r.msb = decide (32768 ≤ r.toNat) := by rw [BitVec.msb_eq_decide]
  by_cases h : 32768 ≤ r.toNat
  · rw [hm, decide_eq_true h, if_pos rfl, if_pos rfl, BitVec.toNat_xor, BitVec.toNat_shiftLeft]
    congr 1
    have e1 : (2 * r.toNat ^^^ 65581) / 2 ^ 16 = 0 := by
      rw [← Nat.shiftRight_eq_div_pow, Nat.shiftRight_xor_distrib, Nat.shiftRight_eq_div_pow, Nat.shiftRight_eq_div_pow, show 2 * r.toNat / 2 ^ 16 = 1 by omega]; rfl
    have e2 : (2 * r.toNat ^^^ 65581) % 2 ^ 16 = (2 * r.toNat % 2 ^ 16) ^^^ 45 := by rw [Nat.xor_mod_two_pow]
    have e3 := Nat.div_add_mod (2 * r.toNat ^^^ 65581) (2 ^ 16)
    rw [e1, e2] at e3
    rw [Nat.shiftLeft_eq, Nat.mul_comm r.toNat]
    exact (by simpa using e3 : _)
  · rw [hm, decide_eq_false h, if_neg (by simp), if_neg (by simp), BitVec.toNat_shiftLeft, Nat.shiftLeft_eq]
    congr 1
    omega
theorem mul_loop (a b : G) : ∀ (n : Nat) (r : G), n ≤ 16 → Ev (fun k => ring_mulMod.l0 k (num a) (num b) 65581 16 (num r) ((n : Int) - 1)) (num (horner a b n r))
  | 0, r, hn => Ev.step (f := fun _ => some (num r)) (fun k => by simp only [ring_mulMod.l0]; rw [if_neg (by omega)]) (Ev.now _)
  | n + 1, r, hn => by
    have ha := a.isLt; have hr := r.isLt; have hb := b.isLt
    have hm : r.msb = decide (32768 ≤ r.toNat) := by rw [BitVec.msb_eq_decide]
    have e2 : IntKind.u64.wrap (num r * 2) = ((2 * r.toNat : Nat) : Int) := by unfold num; rw [wu64 (by omega) (by omega)]; omega
    have hx : 2 * r.toNat ^^^ 65581 < 2 ^ 64 := Nat.xor_lt_two_pow (by omega) (by omega)
    have e3 : (if r.msb then Go.bits .xor .u64 ((2 * r.toNat : Nat) : Int) 65581 else ((2 * r.toNat : Nat) : Int)) = num (mx r) := by
      rw [mx_num]
      cases r.msb
      · rfl
      · simp only [if_true]
        exact u64_xor_nat (2 * r.toNat) 65581 (by omega) (by omega)
    have e4 : ∀ c : G, Go.bits .xor .u64 (num c) (num a) = num (c ^^^ a) := fun c => by
      have := c.isLt
      unfold num; rw [u64_xor_nat _ _ (by omega) (by omega), BitVec.toNat_xor]
    have t1 : Go.bits .and .u64 (shr .u64 ((2 * r.toNat : Nat) : Int) 16) 1 = ((2 * r.toNat / 2 ^ 16 % 2 : Nat) : Int) := bit_u64 (2 * r.toNat) 16 (by omega) (by omega)
    have t2 : Go.bits .and .u64 (shr .u64 (num b) (n : Int)) 1 = ((b.toNat / 2 ^ n % 2 : Nat) : Int) := bit_u64 b.toNat n (by omega) (by omega)
    have ih := mul_loop a b n (mx r ^^^ sel (b.getLsbD n) a) (by omega)
    refine Ev.step (fun k => ?_) ih
    simp only [ring_mulMod.l0]
    rw [show ((n + 1 : Nat) : Int) - 1 = (n : Int) by omega, if_pos (show (n : Int) ≥ 0 by omega), if_pos (show (0 : Int) ≤ 16 by omega), e2, t1, t2, w64 (n := (n : Int) - 1) (by omega) (by omega)]
    have hbit := bit_get b n
    by_cases h1 : 32768 ≤ r.toNat
    · rw [if_pos (by omega), if_pos (show (n : Int) ≥ 0 by omega)]
      rw [hm, decide_eq_true h1] at e3
      simp only [if_true] at e3
      rw [e3]
      by_cases h2 : b.toNat / 2 ^ n % 2 = 1
      · rw [if_pos (by omega), e4, hbit, decide_eq_true h2]; rfl
      · rw [if_neg (by omega), hbit, decide_eq_false h2]
        congr 2
        exact BitVec.xor_zero.symm
    · rw [if_neg (by omega), if_pos (show (n : Int) ≥ 0 by omega)]
      rw [hm, decide_eq_false h1] at e3
      simp only [Bool.false_eq_true, if_false] at e3
      rw [e3]
      by_cases h2 : b.toNat / 2 ^ n % 2 = 1
      · rw [if_pos (by omega), e4, hbit, decide_eq_true h2]; rfl
      · rw [if_neg (by omega), hbit, decide_eq_false h2]
        congr 2
        exact BitVec.xor_zero.symm
theorem mul_ev (a b : G) : Ev (fun k => gf16_Mul.f k (num a) (num b)) (num (mul a b)) := by
  have ha := num_lt a; have hb := num_lt b; have hc := num_lt (mul a b)
  refine ev_bind (g := fun k => ring_MulMod.f k (num a) (num b) 65581) (a := (num (mul a b), 0)) (fun k => by unfold gf16_Mul.f; rw [wu64 (by omega) (by omega), wu64 (by omega) (by omega)]) ?_ (ev_const fun k => by rw [wu16 (by omega) (by omega)])
  refine ev_bind (g := fun k => ring_isModulus.f k 65581 32) (a := true) (fun k => by unfold ring_MulMod.f; rfl) ?_ ?_
  · exact Ev.of (fun k => ring_isModulus.mono _ _ k) (k := 5) (by decide +kernel)
  · simp only [if_true]
    refine Ev.bind (a := num (mul a b)) ?_ (Ev.now _)
    refine ev_bind (fun k => by unfold ring_mulMod.f; rfl) (divMod_ev (num a) (by omega) (by omega)) (Ev.bind (divMod_ev (num b) (by omega) (by omega)) (Ev.bind deg_p ?_))
    have := mul_loop a b 16 0 (by omega)
    rw [horner_mul, show num 0 = 0 from rfl, show (((16 : Nat) : Int) - 1) = wrap64 (16 - 1) by decide +kernel] at this
    exact this

/-! subspace polynomials and elements -/
theorem vanish_loop (x : G) (n : Nat) (hn : n ≤ 16) : ∀ c j, j + c = n → Ev (fun k => lch_vanish.l0 k (num (sub j x)) (n : Int) (j : Int)) (num (sub n x))
  | 0, j, h => by
    refine Ev.step (f := fun _ => some (num (sub j x))) (fun k => by simp only [lch_vanish.l0]; rw [if_neg (by omega)]) ?_
    rw [show n = j by omega]; exact Ev.now _
  | c + 1, j, h => by
    refine Ev.step (fun k => by simp only [lch_vanish.l0]; rw [if_pos (by omega)]) (Ev.bind (mul_ev (sub j x) (sub j x)) ?_)
    have ih := vanish_loop x n hn c (j + 1) (by omega)
    rw [num_xor, w64 (by omega) (by omega)]
    have e : sub j x ^^^ mul (sub j x) (sub j x) = sub (j + 1) x := by show _ = sq (sub j x) ^^^ sub j x; unfold sq; ac_rfl
    rw [e]; exact ih
theorem vanish_ev (i : Nat) (x : G) : Ev (fun k => lch_Vanish.f k (i : Int) (num x)) (if i ≤ 16 then (num (sub i x), 0) else (0, 7)) := by
  unfold lch_Vanish.f
  by_cases h : i ≤ 16
  · rw [if_pos h]
    simp only [if_neg (show ¬ (i : Int) < 0 by omega), if_neg (show ¬ (i : Int) > 16 by omega)]
    refine Ev.bind ?_ (Ev.now _)
    exact vanish_loop x i h i 0 (by omega)
  · rw [if_neg h]
    simp only [if_neg (show ¬ (i : Int) < 0 by omega), if_pos (show (i : Int) > 16 by omega)]
    exact Ev.now _
theorem cb_num : ∀ j : Nat, j < 16 → rd cbl (j : Int) = num (cb j) := by decide +kernel
theorem element_loop (i : G) : ∀ c j, j + c = 16 → Ev (fun k => gf16_element.l0 k (num i) (num (sum (fun t => sel (i.getLsbD t) (cb t)) j)) (j : Int)) (num (el i))
  | 0, j, h => by
    refine Ev.step (f := fun _ => some (num (sum (fun t => sel (i.getLsbD t) (cb t)) j))) (fun k => by simp only [gf16_element.l0]; rw [if_neg (by omega)]) ?_
    rw [show j = 16 by omega]; exact Ev.now _
  | c + 1, j, h => by
    have ih := element_loop i c (j + 1) (by omega)
    have hi := i.isLt
    have t1 : Go.bits .and .i64 (shr .i64 (num i) (j : Int)) 1 = ((i.toNat / 2 ^ j % 2 : Nat) : Int) := bit_i64 i.toNat j (by omega) (by omega)
    have hbit := bit_get i j
    refine Ev.step (fun k => ?_) ih
    simp only [gf16_element.l0]
    rw [if_pos (by omega), if_pos (by omega), t1, cb_num j (by omega), num_xor, w64 (by omega) (by omega)]
    by_cases h2 : i.toNat / 2 ^ j % 2 = 1
    · rw [if_pos (by omega)]; simp only [sum, hbit, decide_eq_true h2]; rfl
    · rw [if_neg (by omega)]; simp only [sum, hbit, decide_eq_false h2]
      rw [show sel false (cb j) = 0 from rfl, show ∀ a : G, a ^^^ 0 = a from fun a => BitVec.xor_zero]; rfl
theorem element_ev (i : G) : Ev (fun k => gf16_Element.f k (num i)) (num (el i), 0) := by
  have hi := num_lt i
  unfold gf16_Element.f
  simp only [if_neg (show ¬ num i < 0 by omega), if_neg (show ¬ num i > 65535 by omega)]
  refine Ev.bind ?_ (Ev.now _)
  exact element_loop i 16 0 (by omega)
end Go.Proofs.Ytcnabolainmaeaa.Pure
