import Derived.Test.YtbaljbadlfopgaaGfXQ
import Derived.Test.YtbaljbadlfopgaaProg
import Derived.Test.YtbaljbadlfopgaaFwTQ
import Derived.Test.YtbaljbadlfopgaaSMndQ
set_option linter.all false
/- The document's product in GF(2^16): shift, add, reduce from the top; the even roots. Plain maths. -/
set_option linter.unusedVariables false
namespace Go.Fw
/-! Even roots. -/
end Go.Fw

set_option linter.unusedVariables false
set_option linter.unusedSimpArgs false
set_option maxRecDepth 100000
set_option maxHeartbeats 1000000
namespace Go.Proofs.Ytbaljbadlfopgaa.Fw
open Go Go.Fw Go.Proofs
attribute [local irreducible] stepI
end Go.Proofs.Ytbaljbadlfopgaa.Fw
namespace Go.Proofs.Ytbaljbadlfopgaa.Fw
open Go Go.Fw
end Go.Proofs.Ytbaljbadlfopgaa.Fw

/- The document's product in GF(2^8); powers as inverses. Plain maths. -/
set_option linter.unusedVariables false
namespace Go.Fw
def rec1 (p : BitVec 32) (i : Nat) : BitVec 32 := p ^^^ sel (p.getLsbD i) (0x11d#32 <<< (i - 8))
def recN : Nat → BitVec 32 → BitVec 32
  | 0, p => p
  | m + 1, p => recN m (rec1 p (8 + m))
def rec8 (p : BitVec 32) : BitVec 8 := (recN 7 p).setWidth 8
theorem badd_rec1 (i : Nat) : BAdd (fun p => rec1 p i) := fun a b => by
  show (a ^^^ b) ^^^ sel ((a ^^^ b).getLsbD i) (0x11d#32 <<< (i - 8)) = (a ^^^ sel (a.getLsbD i) (0x11d#32 <<< (i - 8))) ^^^ (b ^^^ sel (b.getLsbD i) (0x11d#32 <<< (i - 8)))
  rw [BitVec.getLsbD_xor, sel_bxor]
  ac_rfl
theorem badd_recN : ∀ m, BAdd (recN m)
  | 0 => fun _ _ => rfl
  | m + 1 => fun a b => by
    show recN m (rec1 (a ^^^ b) (8 + m)) = recN m (rec1 a (8 + m)) ^^^ recN m (rec1 b (8 + m))
    rw [show rec1 (a ^^^ b) (8 + m) = rec1 a (8 + m) ^^^ rec1 b (8 + m) from badd_rec1 (8 + m) a b, badd_recN m]
theorem badd_rec8 : BAdd rec8 := fun a b => by
  unfold rec8
  rw [badd_recN 7 a b, BitVec.setWidth_xor]
def mulQ (a b : BitVec 8) (n : Nat) : BitVec 32 := bsum (fun t => sel (b.getLsbD t) (a.setWidth 32 <<< t)) n
theorem badd_sh8 (i : Nat) : BAdd (fun a : BitVec 8 => a.setWidth 32 <<< i) := fun a b => by
  show (a ^^^ b).setWidth 32 <<< i = _
  rw [BitVec.setWidth_xor, BitVec.shiftLeft_xor_distrib]
theorem badd_pw8 (i : Nat) : BAdd (fun a : BitVec 8 => pw r8 a i) := fun a b => pw_xor r8 a b i
theorem mul_rec8 (a b : BitVec 8) : rec8 (mulQ a b 8) = bmul r8 a b := by
  unfold mulQ bmul
  rw [BAdd.sum badd_rec8]
  refine bsum_congr 8 fun i hi => ?_
  rw [BAdd.sel badd_rec8]
  congr 1
  have key : ∀ i < 8, ∀ t < 8, rec8 ((be 8 t).setWidth 32 <<< i) = pw r8 (be 8 t) i := by decide +kernel
  exact BAdd.ext (f := fun a => rec8 (a.setWidth 32 <<< i)) (g := fun a => pw r8 a i) (BAdd.comp badd_rec8 (badd_sh8 i)) (badd_pw8 i) (key i hi) a
/-! Squares of squares; their products. -/
section
variable {n : Nat} [F : Fd n]
def sqn (a : El n) : Nat → El n
  | 0 => a
  | k + 1 => sqn a k * sqn a k
def pin (a : El n) : Nat → El n
  | 0 => 1
  | k + 1 => pin a k * sqn a (k + 1)
end
theorem sqn8 (a : El 8) : ∀ k, sqn a k = ⟨bsqn r8 a.v k⟩
  | 0 => rfl
  | k + 1 => by show sqn a k * sqn a k = _; rw [sqn8 a k]; rfl
theorem pin8 (a : El 8) : ∀ k, pin a k = ⟨bin r8 a.v k⟩
  | 0 => rfl
  | k + 1 => by show pin a k * sqn a (k + 1) = _; rw [pin8 a k, sqn8]; rfl
theorem pin_inv8 (a : El 8) : pin a 7 = a.inv := pin8 a 7
end Go.Fw

set_option linter.unusedVariables false
set_option linter.unusedSimpArgs false
set_option maxRecDepth 100000
set_option maxHeartbeats 1000000
namespace Go.Proofs.Ytbaljbadlfopgaa.Fw
open Go Go.Fw Go.Proofs
attribute [local irreducible] stepI
def c_culletref02_Mul : C := .seq (.ops [⟨0,some 4,none,.mov (.c (.int .u8 0)),[]⟩]) (.seq (.ops [⟨0,some 5,none,.mov (.c (.int .i64 0)),[]⟩]) (.seq (.seq (.ops [⟨0,some 6,none,.mov (.c (.int .i64 0)),[]⟩]) (.block 0 (.loop (.seq (.seq (.ops [⟨0,some 8,none,.mov (.t 6),[]⟩,⟨1,some 9,none,.bin .lss (.t 8) (.c (.int .i64 8)),[]⟩]) (.ite (.t 9) .skip (.exit 0))) (.seq (.block 1 (.seq (.ops [⟨0,some 12,none,.mov (.t 1),[]⟩,⟨1,some 13,none,.mov (.t 6),[]⟩,⟨2,some 14,none,.cnv .u64 (.t 13),[]⟩,⟨3,some 15,none,.bin .shr (.t 12) (.t 14),[]⟩,⟨4,some 16,none,.bin .and (.t 15) (.c (.int .u8 1)),[]⟩,⟨5,some 17,none,.bin .eql (.t 16) (.c (.int .u8 1)),[]⟩]) (.ite (.t 17) (.ops [⟨0,some 18,none,.mov (.t 5),[]⟩,⟨1,some 19,none,.mov (.t 0),[]⟩,⟨2,some 20,none,.cnv .i64 (.t 19),[]⟩,⟨3,some 21,none,.mov (.t 6),[]⟩,⟨4,some 22,none,.cnv .u64 (.t 21),[]⟩,⟨5,some 23,none,.bin .shl (.t 20) (.t 22),[]⟩,⟨6,some 24,none,.bin .xor (.t 18) (.t 23),[]⟩,⟨7,some 5,none,.mov (.t 24),[]⟩]) .skip))) (.ops [⟨0,some 10,none,.mov (.t 6),[]⟩,⟨1,some 11,none,.bin .add (.t 10) (.c (.int .i64 1)),[]⟩,⟨2,some 6,none,.mov (.t 11),[]⟩])))))) (.seq (.seq (.ops [⟨0,some 7,none,.mov (.c (.int .i64 14)),[]⟩]) (.block 2 (.loop (.seq (.seq (.ops [⟨0,some 25,none,.mov (.t 7),[]⟩,⟨1,some 26,none,.bin .geq (.t 25) (.c (.int .i64 8)),[]⟩]) (.ite (.t 26) .skip (.exit 2))) (.seq (.block 3 (.seq (.ops [⟨0,some 29,none,.mov (.t 5),[]⟩,⟨1,some 30,none,.mov (.t 7),[]⟩,⟨2,some 31,none,.cnv .u64 (.t 30),[]⟩,⟨3,some 32,none,.bin .shr (.t 29) (.t 31),[]⟩,⟨4,some 33,none,.bin .and (.t 32) (.c (.int .i64 1)),[]⟩,⟨5,some 34,none,.bin .eql (.t 33) (.c (.int .i64 1)),[]⟩]) (.ite (.t 34) (.ops [⟨0,some 35,none,.mov (.t 5),[]⟩,⟨1,some 36,none,.mov (.t 7),[]⟩,⟨2,some 37,none,.bin .sub (.t 36) (.c (.int .i64 8)),[]⟩,⟨3,some 38,none,.cnv .u64 (.t 37),[]⟩,⟨4,some 39,none,.bin .shl (.c (.int .i64 285)) (.t 38),[]⟩,⟨5,some 40,none,.bin .xor (.t 35) (.t 39),[]⟩,⟨6,some 5,none,.mov (.t 40),[]⟩]) .skip))) (.ops [⟨0,some 27,none,.mov (.t 7),[]⟩,⟨1,some 28,none,.bin .sub (.t 27) (.c (.int .i64 1)),[]⟩,⟨2,some 7,none,.mov (.t 28),[]⟩])))))) (.seq (.ops [⟨0,some 41,none,.mov (.t 5),[]⟩,⟨1,some 42,none,.cnv .u8 (.t 41),[]⟩,⟨2,some 4,none,.mov (.t 42),[]⟩]) .ret))))
attribute [irreducible] c_culletref02_Mul
theorem run_culletref02_Mul {args : List Value} {w : World} {K : Value → World → Prop} (hn : args.length ≤ 43) (h : WP Try.prog c_culletref02_Mul (endQ [.t 4] K) (initT args) w) : CallV Try.prog 100 args w K :=
  call_of follows Try.func100 (by kernel_rfl) (by kernel_rfl) hn h
def c_culletref02_Inv : C := .seq (.ops [⟨0,some 2,none,.mov (.c (.int .u8 0)),[]⟩,⟨1,some 3,none,.mov (.c (.int .i64 0)),[]⟩]) (.seq (.seq (.ops [⟨0,some 7,none,.mov (.t 0),[]⟩,⟨1,some 8,none,.bin .eql (.t 7) (.c (.int .u8 0)),[]⟩]) (.ite (.t 8) (.seq (.ops [⟨0,some 2,none,.mov (.c (.int .u8 0)),[]⟩,⟨1,some 3,none,.mov (.c (.int .i64 20)),[]⟩]) .ret) .skip)) (.seq (.ops [⟨0,some 9,none,.mov (.t 0),[]⟩,⟨1,some 10,none,.mov (.t 0),[]⟩,⟨2,some 11,none,.call (.c (.func (.func 100) #[] #[])) [.t 9,.t 10],[]⟩,⟨3,some 4,none,.mov (.t 11),[]⟩]) (.seq (.ops [⟨0,some 5,none,.mov (.c (.int .u8 1)),[]⟩]) (.seq (.seq (.ops [⟨0,some 6,none,.mov (.c (.int .i64 0)),[]⟩]) (.block 0 (.loop (.seq (.seq (.ops [⟨0,some 12,none,.mov (.t 6),[]⟩,⟨1,some 13,none,.bin .lss (.t 12) (.c (.int .i64 7)),[]⟩]) (.ite (.t 13) .skip (.exit 0))) (.seq (.block 1 (.seq (.ops [⟨0,some 16,none,.mov (.t 5),[]⟩,⟨1,some 17,none,.mov (.t 4),[]⟩,⟨2,some 18,none,.call (.c (.func (.func 100) #[] #[])) [.t 16,.t 17],[]⟩,⟨3,some 5,none,.mov (.t 18),[]⟩]) (.ops [⟨0,some 19,none,.mov (.t 4),[]⟩,⟨1,some 20,none,.mov (.t 4),[]⟩,⟨2,some 21,none,.call (.c (.func (.func 100) #[] #[])) [.t 19,.t 20],[]⟩,⟨3,some 4,none,.mov (.t 21),[]⟩]))) (.ops [⟨0,some 14,none,.mov (.t 6),[]⟩,⟨1,some 15,none,.bin .add (.t 14) (.c (.int .i64 1)),[]⟩,⟨2,some 6,none,.mov (.t 15),[]⟩])))))) (.seq (.ops [⟨0,some 22,none,.mov (.t 5),[]⟩,⟨1,some 2,none,.mov (.t 22),[]⟩,⟨2,some 3,none,.mov (.c (.int .i64 0)),[]⟩]) .ret)))))
attribute [irreducible] c_culletref02_Inv
theorem run_culletref02_Inv {args : List Value} {w : World} {K : Value → World → Prop} (hn : args.length ≤ 23) (h : WP Try.prog c_culletref02_Inv (endQ [.t 2, .t 3] K) (initT args) w) : CallV Try.prog 136 args w K :=
  call_of follows Try.func136 (by kernel_rfl) (by kernel_rfl) hn h
end Go.Proofs.Ytbaljbadlfopgaa.Fw
namespace Go.Proofs.Ytbaljbadlfopgaa.Fw
open Go Go.Fw
theorem bit_u8 (a : BitVec 8) (n : Nat) (hn : n ≤ 8) : bitsOp .and .u8 (shrV .u8 (a.toNat : Int) (n : Int)) 1 = (if a.getLsbD n then 1 else 0 : Int) := by
  rw [shr_nat .u8 a.toNat n hn]
  have h1 : a.toNat >>> n ≤ a.toNat := by rw [Nat.shiftRight_eq_div_pow]; exact Nat.div_le_self _ _
  have hlt := a.isLt
  have := bits_and fits_u8 (a := a.toNat >>> n) (b := 1) (by omega) (by decide)
  rw [and_one_shr] at this
  refine this.trans ?_
  show _ = if a.toNat.testBit n = true then (1 : Int) else 0
  split <;> rfl
theorem bit_i64 (a : BitVec 32) (n : Nat) (hn : n ≤ 32) : bitsOp .and .i64 (shrV .i64 (a.toNat : Int) (n : Int)) 1 = (if a.getLsbD n then 1 else 0 : Int) := by
  rw [shr_nat .i64 a.toNat n (by show n ≤ 64; omega)]
  have h1 : a.toNat >>> n ≤ a.toNat := by rw [Nat.shiftRight_eq_div_pow]; exact Nat.div_le_self _ _
  have hlt := a.isLt
  have := bits_and fits_i64 (a := a.toNat >>> n) (b := 1) (by omega) (by decide)
  rw [and_one_shr] at this
  refine this.trans ?_
  show _ = if a.toNat.testBit n = true then (1 : Int) else 0
  split <;> rfl
theorem culletref02_Mul_spec (w : World) (a b : El 8) : CallV Try.prog 100 [.int .u8 (a.v.toNat : Int), .int .u8 (b.v.toNat : Int)] w fun v w' => v = .int .u8 ((a * b).v.toNat : Int) ∧ w' = w := by
  have ha := a.v.isLt
  have lt63 : ∀ p : BitVec 32, p.toNat < 2 ^ 63 := fun p => Nat.lt_trans p.isLt (by decide)
  refine run_culletref02_Mul (by simp) ?_
  simp only [c_culletref02_Mul, WS, ↓reduceIte, Nat.reduceEqDiff, reduceCtorEq]
  refine loop_of (fun t w' => w' = w ∧ t 0 = .int .u8 (a.v.toNat : Int) ∧ t 1 = .int .u8 (b.v.toNat : Int) ∧ ∃ i : Nat, t 6 = .int .i64 (i : Int) ∧ i ≤ 8 ∧ t 5 = .int .i64 ((mulQ a.v b.v i).toNat : Int)) (fun t _ => 8 - (toI (t 6)).toNat) ⟨rfl, by simp only [WS, ↓reduceIte, Nat.reduceEqDiff, reduceCtorEq], by simp only [WS, ↓reduceIte, Nat.reduceEqDiff, reduceCtorEq], 0, rfl, by omega, rfl⟩ ?_
  rintro t w' ⟨rfl, t0, t1, i, t6, hi, t5⟩
  by_cases hlt : i < 8
  · have e1 : IntKind.u64.wrap (i : Int) = (i : Int) := wrap_u64 i (by omega)
    have e2 := bit_u8 b.v i (by omega)
    have hnn : ((0 : Int) ≤ (i : Int)) = True := eq_true (by omega)
    by_cases hb : b.v.getLsbD i = true
    · rw [if_pos hb] at e2
      have e3 : IntKind.i64.wrap (a.v.toNat : Int) = (a.v.toNat : Int) := wrap_64 _ (by omega)
      have hs : a.v.toNat <<< i < 2 ^ 32 := by
        rw [Nat.shiftLeft_eq]
        have : 2 ^ i ≤ 2 ^ 7 := Nat.pow_le_pow_right (by omega) (by omega)
        exact Nat.lt_of_le_of_lt (Nat.mul_le_mul (Nat.le_of_lt ha) this) (by decide)
      have e4 : shlV .i64 (a.v.toNat : Int) (i : Int) = ((a.v.setWidth 32 <<< i).toNat : Int) := by
        rw [shl_nat fits_i64 a.v.toNat i (by show i ≤ 64; omega) (by rw [← Nat.shiftLeft_eq]; exact Nat.lt_trans hs (by decide)), BitVec.toNat_shiftLeft, BitVec.toNat_setWidth, Nat.mod_eq_of_lt (show a.v.toNat < 2 ^ 32 by omega), Nat.mod_eq_of_lt hs]
      have e5 : bitsOp .xor .i64 ((mulQ a.v b.v i).toNat : Int) ((a.v.setWidth 32 <<< i).toNat : Int) = ((mulQ a.v b.v (i + 1)).toNat : Int) := by
        rw [bits_xor fits_i64 (lt63 _) (lt63 _), ← BitVec.toNat_xor]
        show _ = ((bsum _ i ^^^ sel (b.v.getLsbD i) _ : BitVec 32).toNat : Int)
        rw [hb]; rfl
      simp (maxSteps := 1000000) (disch := omega) only [WS, ↓reduceIte, Nat.reduceEqDiff, reduceCtorEq, AS, t0, t1, t5, t6, e1, X_shr, X_shl, hnn, e2, show decide ((1 : Int) = 1) = true from rfl, e3, e4, e5]
      exact ⟨⟨i + 1, rfl, by omega, rfl⟩, by omega⟩
    · rw [if_neg hb] at e2
      simp (maxSteps := 1000000) (disch := omega) only [WS, ↓reduceIte, Nat.reduceEqDiff, reduceCtorEq, AS, t0, t1, t5, t6, e1, X_shr, X_shl, hnn, e2, show decide ((0 : Int) = 1) = false from rfl]
      refine ⟨⟨i + 1, rfl, by omega, ?_⟩, by omega⟩
      show _ = Value.int .i64 ((bsum _ i ^^^ sel (b.v.getLsbD i) _ : BitVec 32).toNat : Int)
      rw [Bool.eq_false_iff.2 hb]
      show _ = Value.int .i64 ((bsum _ i ^^^ 0#32 : BitVec 32).toNat : Int)
      rw [BitVec.xor_zero]; rfl
  obtain rfl : i = 8 := by omega
  simp (maxSteps := 1000000) (disch := omega) only [WS, ↓reduceIte, Nat.reduceEqDiff, reduceCtorEq, AS, t0, t1, t5, t6, show decide (((8 : Nat) : Int) < 8) = false from rfl]
  refine loop_of (fun t w2 => w2 = w' ∧ ∃ (m : Nat) (p : BitVec 32), t 7 = .int .i64 (((m + 7 : Nat) : Int)) ∧ m ≤ 7 ∧ t 5 = .int .i64 (p.toNat : Int) ∧ recN m p = recN 7 (mulQ a.v b.v 8)) (fun t _ => (toI (t 7)).toNat) ⟨rfl, 7, _, rfl, by omega, by simp only [WS, ↓reduceIte, Nat.reduceEqDiff, reduceCtorEq]; exact t5, rfl⟩ ?_
  clear t0 t1 t5 t6
  rintro t w2 ⟨rfl, m, p, t7, hm, t5, hr⟩
  cases m with
  | zero =>
    have e1 : IntKind.u8.wrap (p.toNat : Int) = ((a * b).v.toNat : Int) := by
      rw [wrap_u8m]
      show _ = (((bmul r8 a.v b.v).toNat : Nat) : Int)
      rw [← mul_rec8]
      unfold rec8
      rw [← hr]
      show ((p.toNat % 256 : Nat) : Int) = ((p.setWidth 8).toNat : Int)
      rw [BitVec.toNat_setWidth]
    simp (maxSteps := 1000000) (disch := omega) only [WS, ↓reduceIte, Nat.reduceEqDiff, reduceCtorEq, AS, t5, t7, show decide ((8 : Int) ≤ ((0 + 7 : Nat) : Int)) = false from rfl, e1]
  | succ m =>
    have e7 : ((m + 1 + 7 : Nat) : Int) = ((8 + m : Nat) : Int) := by omega
    rw [e7] at t7
    have e1 : IntKind.u64.wrap ((8 + m : Nat) : Int) = ((8 + m : Nat) : Int) := wrap_u64 _ (by omega)
    have e2 := bit_i64 p (8 + m) (by omega)
    have hnn : ((0 : Int) ≤ ((8 + m : Nat) : Int)) = True := eq_true (by omega)
    have hnm : ((0 : Int) ≤ (m : Int)) = True := eq_true (by omega)
    have e6 : IntKind.i64.wrap (((8 + m : Nat) : Int) - 1) = ((m + 7 : Nat) : Int) := by rw [wrap_id (by omega) (by omega)]; omega
    have e8 : IntKind.i64.wrap (((8 + m : Nat) : Int) - 8) = (m : Int) := by rw [wrap_id (by omega) (by omega)]; omega
    have e9 : IntKind.u64.wrap (m : Int) = (m : Int) := wrap_u64 _ (by omega)
    have d16 : decide ((8 : Int) ≤ ((8 + m : Nat) : Int)) = true := decide_eq_true (by omega)
    by_cases hb : p.getLsbD (8 + m) = true
    · rw [if_pos hb] at e2
      have hs : 285 <<< m < 2 ^ 32 := by
        rw [Nat.shiftLeft_eq]
        have : 2 ^ m ≤ 2 ^ 7 := Nat.pow_le_pow_right (by omega) (by omega)
        exact Nat.lt_of_le_of_lt (Nat.mul_le_mul (Nat.le_refl 285) this) (by decide)
      have e4 : shlV .i64 285 (m : Int) = ((0x11d#32 <<< m).toNat : Int) := by
        rw [show (285 : Int) = ((285 : Nat) : Int) from rfl, shl_nat fits_i64 285 m (by show m ≤ 64; omega) (by rw [← Nat.shiftLeft_eq]; exact Nat.lt_trans hs (by decide)), BitVec.toNat_shiftLeft]
        rw [show (0x11d#32).toNat = 285 from rfl, Nat.mod_eq_of_lt hs]
      have e5 : bitsOp .xor .i64 (p.toNat : Int) ((0x11d#32 <<< m).toNat : Int) = ((rec1 p (8 + m)).toNat : Int) := by
        rw [bits_xor fits_i64 (lt63 _) (lt63 _), ← BitVec.toNat_xor]
        unfold rec1
        rw [hb, Nat.add_sub_cancel_left]; rfl
      simp (maxSteps := 1000000) only [WS, ↓reduceIte, Nat.reduceEqDiff, reduceCtorEq, t5, t7, e1, d16, X_shr, X_shl, hnn, hnm, e2, show decide ((1 : Int) = 1) = true from rfl, e4, e5, e6, e8, e9, toI_int]
      exact ⟨⟨m, _, rfl, by omega, rfl, hr⟩, by omega⟩
    · rw [if_neg hb] at e2
      simp (maxSteps := 1000000) only [WS, ↓reduceIte, Nat.reduceEqDiff, reduceCtorEq, t5, t7, e1, d16, X_shr, X_shl, hnn, hnm, e2, show decide ((0 : Int) = 1) = false from rfl, e6, e8, e9, toI_int]
      refine ⟨⟨m, p, rfl, by omega, rfl, ?_⟩, by omega⟩
      rw [← hr]
      show recN m p = recN m (rec1 p (8 + m))
      unfold rec1
      rw [Bool.eq_false_iff.2 hb]
      show recN m p = recN m (p ^^^ 0#32)
      rw [BitVec.xor_zero]
theorem culletref02_Inv_spec (w : World) (a : El 8) (h0 : a ≠ 0) : CallV Try.prog 136 [.int .u8 (a.v.toNat : Int)] w fun v w' => v = .tuple #[.int .u8 (a.inv.v.toNat : Int), .int .i64 0] ∧ w' = w := by
  refine run_culletref02_Inv (by simp) ?_
  simp only [c_culletref02_Inv, WS, ↓reduceIte, Nat.reduceEqDiff, reduceCtorEq]
  have d0 : decide ((a.v.toNat : Int) = 0) = false := decide_eq_false fun e => h0 ((el_zero _).mp e)
  simp (maxSteps := 1000000) (disch := omega) only [WS, ↓reduceIte, Nat.reduceEqDiff, reduceCtorEq, AS, d0]
  refine X_call0 ((culletref02_Mul_spec w a a).mono ?_)
  rintro _ w' ⟨rfl, rfl⟩
  simp (maxSteps := 1000000) (disch := omega) only [WS, ↓reduceIte, Nat.reduceEqDiff, reduceCtorEq, AS]
  refine loop_of (fun t w2 => w2 = w' ∧ ∃ i : Nat, t 6 = .int .i64 (i : Int) ∧ i ≤ 7 ∧ t 5 = .int .u8 ((pin a i).v.toNat : Int) ∧ t 4 = .int .u8 ((sqn a (i + 1)).v.toNat : Int)) (fun t _ => 7 - (toI (t 6)).toNat) ⟨rfl, 0, rfl, by omega, rfl, by simp only [WS, ↓reduceIte, Nat.reduceEqDiff, reduceCtorEq]; rfl⟩ ?_
  rintro t w2 ⟨rfl, i, t6, hi, t5, t4⟩
  by_cases hlt : i < 7
  · simp (maxSteps := 1000000) (disch := omega) only [WS, ↓reduceIte, Nat.reduceEqDiff, reduceCtorEq, AS, t4, t5, t6]
    refine X_call0 ((culletref02_Mul_spec w2 (pin a i) (sqn a (i + 1))).mono ?_)
    rintro _ w3 ⟨rfl, rfl⟩
    simp (maxSteps := 1000000) (disch := omega) only [WS, ↓reduceIte, Nat.reduceEqDiff, reduceCtorEq, AS, t4, t5, t6]
    refine X_call0 ((culletref02_Mul_spec w3 (sqn a (i + 1)) (sqn a (i + 1))).mono ?_)
    rintro _ w4 ⟨rfl, rfl⟩
    simp (maxSteps := 1000000) (disch := omega) only [WS, ↓reduceIte, Nat.reduceEqDiff, reduceCtorEq, AS, t4, t5, t6]
    exact ⟨⟨i + 1, rfl, by omega, rfl, rfl⟩, by omega⟩
  · obtain rfl : i = 7 := by omega
    rw [pin_inv8] at t5
    simp (maxSteps := 1000000) (disch := omega) only [WS, ↓reduceIte, Nat.reduceEqDiff, reduceCtorEq, AS, t4, t5, t6, show decide (((7 : Nat) : Int) < 7) = false from rfl]
end Go.Proofs.Ytbaljbadlfopgaa.Fw

set_option linter.unusedVariables false
set_option linter.unusedSimpArgs false
set_option maxRecDepth 100000
set_option maxHeartbeats 1000000
namespace Go.Proofs.Ytbaljbadlfopgaa.Fw
open Go Go.Fw Go.Proofs
attribute [local irreducible] stepI

end Go.Proofs.Ytbaljbadlfopgaa.Fw
namespace Go.Proofs.Ytbaljbadlfopgaa.Fw
open Go Go.Fw
def em8 (x : El 8) : El 16 := ⟨x.v.setWidth 16⟩
def lo8 (x : El 16) : El 8 := ⟨x.v.setWidth 8⟩
theorem em8_nat (x : El 8) : (em8 x).v.toNat = x.v.toNat := by
  have := x.v.isLt
  show (x.v.setWidth 16).toNat = _
  rw [BitVec.toNat_setWidth]; omega
theorem lo8_nat (x : El 16) : (lo8 x).v.toNat = x.v.toNat % 256 := by
  show (x.v.setWidth 8).toNat = _
  rw [BitVec.toNat_setWidth]
theorem lo8_em8 (x : El 8) : lo8 (em8 x) = x := by
  apply El.ext; apply BitVec.eq_of_toNat_eq
  rw [lo8_nat, em8_nat]; have := x.v.isLt; omega
theorem em8_inj {x y : El 8} (h : em8 x = em8 y) : x = y := by rw [← lo8_em8 x, h, lo8_em8]
end Go.Proofs.Ytbaljbadlfopgaa.Fw

namespace Go.Proofs.Ytbaljbadlfopgaa.Fw
open Go Go.Fw
end Go.Proofs.Ytbaljbadlfopgaa.Fw

namespace Go.Proofs.Ytbaljbadlfopgaa.Fw
open Go Go.Fw
end Go.Proofs.Ytbaljbadlfopgaa.Fw

namespace Go.Proofs.Ytbaljbadlfopgaa.Fw
open Go Go.Fw
theorem em8_zero : em8 0 = 0 := rfl
theorem em8_eq0 (x : El 8) : (em8 x = 0) = (x = 0) := propext ⟨fun h => em8_inj (h.trans em8_zero.symm), fun h => by rw [h]; rfl⟩
theorem em8_add (x y : El 8) : em8 x + em8 y = em8 (x + y) := by
  apply El.ext; apply BitVec.eq_of_toNat_eq
  rw [El.add_v, BitVec.toNat_xor, em8_nat, em8_nat, em8_nat, El.add_v, BitVec.toNat_xor]
end Go.Proofs.Ytbaljbadlfopgaa.Fw
