import Derived.Test.YtcbjabnnokjnpaaGfAM
set_option linter.all false
/- The fields of 256 and of 65536 elements; the Cantor basis. Plain maths. -/
set_option linter.unusedVariables false
namespace Go.Fw

section
variable {n : Nat} (r : BitVec n)
def bsq (a : BitVec n) : BitVec n := bmul r a a
def bsqn (a : BitVec n) : Nat → BitVec n
  | 0 => a
  | k + 1 => bsq r (bsqn a k)
/-- a^(2^m - 1) -/
def bpr (a : BitVec n) : Nat → BitVec n
  | 0 => 1
  | k + 1 => bmul r (bpr a k) (bsqn r a k)
/-- a^(2^m - 2) -/
def bin (a : BitVec n) : Nat → BitVec n
  | 0 => 1
  | k + 1 => bmul r (bin a k) (bsqn r a (k + 1))
variable {r} (hc : ∀ a b, bmul r a b = bmul r b a) (ha : ∀ a b c, bmul r (bmul r a b) c = bmul r a (bmul r b c)) (h1 : ∀ a, bmul r a 1 = a)
include hc
theorem badd_sq : BAdd (bsq r) := fun a b => by
  unfold bsq
  rw [bmul_xor_left, bmul_xor_right, bmul_xor_right, hc b a]
  have : bmul r a b ^^^ bmul r a b = 0 := BitVec.xor_self
  calc bmul r a a ^^^ bmul r a b ^^^ (bmul r a b ^^^ bmul r b b) = bmul r a a ^^^ (bmul r a b ^^^ bmul r a b) ^^^ bmul r b b := by ac_rfl
    _ = bmul r a a ^^^ bmul r b b := by rw [this]; exact congrArg (· ^^^ bmul r b b) BitVec.xor_zero
theorem badd_sqn : ∀ k, BAdd (fun a => bsqn r a k)
  | 0 => fun _ _ => rfl
  | k + 1 => BAdd.comp (badd_sq hc) (badd_sqn k)
omit hc
include ha h1 in
theorem bpr_a (hc : ∀ a b, bmul r a b = bmul r b a) (a : BitVec n) : ∀ m, bmul r a (bpr r a m) = bsqn r a m
  | 0 => h1 a
  | m + 1 => by show bmul r a (bmul r (bpr r a m) (bsqn r a m)) = bmul r (bsqn r a m) (bsqn r a m); rw [← ha, bpr_a hc a m]
include ha h1 hc in
theorem bpr_bin (a : BitVec n) : ∀ m, bpr r a (m + 1) = bmul r a (bin r a m)
  | 0 => by
    show bmul r 1 a = bmul r a 1
    rw [hc]
  | m + 1 => by
    show bmul r (bpr r a (m + 1)) (bsqn r a (m + 1)) = bmul r a (bmul r (bin r a m) (bsqn r a (m + 1)))
    rw [bpr_bin a m, ha]
include ha hc h1 in
theorem bsq_bpr (a : BitVec n) : ∀ m, bsq r (bpr r a m) = bin r a m
  | 0 => h1 1
  | m + 1 => by
    show bmul r (bmul r (bpr r a m) (bsqn r a m)) (bmul r (bpr r a m) (bsqn r a m)) = bmul r (bin r a m) (bsqn r a (m + 1))
    rw [← bsq_bpr a m]
    show _ = bmul r (bmul r (bpr r a m) (bpr r a m)) (bmul r (bsqn r a m) (bsqn r a m))
    generalize bpr r a m = x
    generalize bsqn r a m = y
    rw [ha, ha, ← ha y x y, hc y x, ha]
include ha hc h1 in
/-- Where squaring n times changes nothing, and only 0 and 1 are their own squares, each element but 0 has an inverse. -/
theorem binv_of (m : Nat) (hn : ∀ a, bsqn r a (m + 1) = a) (hid : ∀ u, bsq r u = u → u = 0 ∨ u = 1) (a : BitVec n) (h : a ≠ 0) : bmul r a (bin r a m) = 1 := by
  rw [← bpr_bin hc ha h1]
  have hu : bsq r (bpr r a (m + 1)) = bpr r a (m + 1) := by
    rw [bsq_bpr hc ha h1, bpr_bin hc ha h1]
    show bmul r (bin r a m) (bsqn r a (m + 1)) = bmul r a (bin r a m)
    rw [hn, hc]
  rcases hid _ hu with h0 | h0
  · exfalso
    apply h
    have := bpr_a ha h1 hc a (m + 1)
    rw [h0, hn] at this
    rw [← this]
    exact (badd_mul_right r a).zero
  · exact h0
end

/-! The field of 65536. -/
def r16 : BitVec 16 := 0x2d#16
theorem c16 : ∀ a b : BitVec 16, bmul r16 a b = bmul r16 b a := bmul_comm_of r16 (by decide +kernel)
theorem a16 : ∀ a b c : BitVec 16, bmul r16 (bmul r16 a b) c = bmul r16 a (bmul r16 b c) := bmul_assoc_of r16 (by decide +kernel)
theorem o16 : ∀ a : BitVec 16, bmul r16 a 1 = a := BAdd.ext (f := fun a => bmul r16 a 1) (badd_mul_left r16 1) badd_id (by decide +kernel)
/-- The Cantor basis, and the indices of 1, 2, 4, .. -/
def cbs : List (BitVec 16) := [0x0001, 0xacca, 0x3c0e, 0x163e, 0xc582, 0xed2e, 0x914c, 0x4012, 0x6c98, 0x10d8, 0x6a72, 0xb900, 0xfdb8, 0xfb34, 0xff38, 0x991e]
def cis : List (BitVec 16) := [0x0001, 0x4690, 0x65d8, 0x62d0, 0x5734, 0x45f0, 0x53b8, 0x1e38, 0x7cae, 0x4e38, 0x6708, 0xc25c, 0x7a64, 0x9eac, 0x1124, 0x523a]
/-- w(i) -/
def bw (i : BitVec 16) : BitVec 16 := bsum (fun t => sel (i.getLsbD t) (cbs.getD t 0)) 16
def bix (a : BitVec 16) : BitVec 16 := bsum (fun t => sel (a.getLsbD t) (cis.getD t 0)) 16
theorem badd_lin {n : Nat} (f : Nat → BitVec n) (m : Nat) : BAdd (fun a : BitVec n => bsum (fun t => sel (a.getLsbD t) (f t)) m) := fun a b => by
  show bsum _ m = bsum _ m ^^^ bsum _ m
  rw [← bsum_xor]
  exact bsum_congr m fun i _ => by rw [BitVec.getLsbD_xor, sel_bxor]
theorem badd_w : BAdd bw := badd_lin _ 16
theorem badd_ix : BAdd bix := badd_lin _ 16
theorem bix_w (i : BitVec 16) : bix (bw i) = i := BAdd.ext (f := fun i => bix (bw i)) (BAdd.comp badd_ix badd_w) badd_id (by decide +kernel) i
theorem bw_ix (a : BitVec 16) : bw (bix a) = a := BAdd.ext (f := fun a => bw (bix a)) (BAdd.comp badd_w badd_ix) badd_id (by decide +kernel) a
theorem badd_shr (n k : Nat) : BAdd (fun a : BitVec n => a >>> k) := fun a b => by exact BitVec.ushiftRight_xor_distrib a b k
theorem bs1_w (i : BitVec 16) : bsq r16 (bw i) ^^^ bw i = bw (i >>> 1) :=
  BAdd.ext (f := fun i => bsq r16 (bw i) ^^^ bw i) (g := fun i => bw (i >>> 1)) (BAdd.xor (BAdd.comp (badd_sq c16) badd_w) badd_w) (BAdd.comp badd_w (badd_shr 16 1)) (by decide +kernel) i
theorem bsqn16 (a : BitVec 16) : bsqn r16 a 16 = a := BAdd.ext (f := fun a => bsqn r16 a 16) (badd_sqn c16 16) badd_id (by decide +kernel) a
theorem bid16 (u : BitVec 16) (h : bsq r16 u = u) : u = 0 ∨ u = 1 := by
  have h1 := bs1_w (bix u)
  rw [bw_ix, h, BitVec.xor_self] at h1
  have h2 : bix u >>> 1 = 0 := by rw [← bix_w (bix u >>> 1), ← h1]; exact badd_ix.zero
  have h3 : bix u = 0 ∨ bix u = 1 := by
    generalize bix u = j at h2
    have : j.toNat / 2 = 0 := by
      have := congrArg BitVec.toNat h2
      simpa [BitVec.toNat_ushiftRight, Nat.shiftRight_eq_div_pow] using this
    have hj : j.toNat = 0 ∨ j.toNat = 1 := by omega
    rcases hj with hj | hj
    · left; exact BitVec.eq_of_toNat_eq (by simpa using hj)
    · right; exact BitVec.eq_of_toNat_eq (by simpa using hj)
  rcases h3 with h3 | h3
  · left; rw [← bw_ix u, h3]; exact badd_w.zero
  · right; rw [← bw_ix u, h3]; decide +kernel
instance F16 : Fd 16 := ⟨r16, c16, a16, o16, fun a => bin r16 a 15, binv_of c16 a16 o16 15 bsqn16 bid16, by decide⟩

/-! The field of 256. -/
def r8 : BitVec 8 := 0x1d#8
theorem c8 : ∀ a b : BitVec 8, bmul r8 a b = bmul r8 b a := bmul_comm_of r8 (by decide +kernel)
theorem a8 : ∀ a b c : BitVec 8, bmul r8 (bmul r8 a b) c = bmul r8 a (bmul r8 b c) := bmul_assoc_of r8 (by decide +kernel)
theorem o8 : ∀ a : BitVec 8, bmul r8 a 1 = a := BAdd.ext (f := fun a => bmul r8 a 1) (badd_mul_left r8 1) badd_id (by decide +kernel)
theorem bsqn8 (a : BitVec 8) : bsqn r8 a 8 = a := BAdd.ext (f := fun a => bsqn r8 a 8) (badd_sqn c8 8) badd_id (by decide +kernel) a
theorem bid8 (u : BitVec 8) (h : bsq r8 u = u) : u = 0 ∨ u = 1 := by
  have key : ∀ q : Fin 256, bsq r8 (BitVec.ofFin q) = BitVec.ofFin q → q = 0 ∨ q = 1 := by decide +kernel
  rcases key u.toFin h with e | e
  · left; exact BitVec.eq_of_toFin_eq e
  · right; exact BitVec.eq_of_toFin_eq e
instance F8 : Fd 8 := ⟨r8, c8, a8, o8, fun a => bin r8 a 7, binv_of c8 a8 o8 7 bsqn8 bid8, by decide⟩
end Go.Fw
