import Derived.Test.YtbaljbadlfopgaaProg
import Derived.Test.YtbaljbadlfopgaaFwTW
import Derived.Test.YtbaljbadlfopgaaSRZ6W
import Derived.Test.YtbaljbadlfopgaaFwSpW
set_option linter.all false
set_option linter.unusedVariables false
set_option linter.unusedSimpArgs false
set_option maxRecDepth 100000
set_option maxHeartbeats 1000000
namespace Go.Proofs.Ytbaljbadlfopgaa.Fw
open Go Go.Fw Go.Proofs
attribute [local irreducible] stepI
def c_cullettop_mul8 : C := .seq (.ops [⟨0,some 4,none,.mov (.c (.int .u8 0)),[]⟩]) (.seq (.ops [⟨0,some 9,none,.mov (.t 0),[]⟩,⟨1,some 10,none,.cnv .i64 (.t 9),[]⟩,⟨2,some 11,none,.mov (.t 1),[]⟩,⟨3,some 12,none,.cnv .i64 (.t 11),[]⟩,⟨4,some 5,none,.mov (.t 10),[]⟩,⟨5,some 6,none,.mov (.t 12),[]⟩,⟨6,some 7,none,.mov (.c (.int .i64 0)),[]⟩]) (.seq (.seq (.ops [⟨0,some 8,none,.mov (.c (.int .i64 0)),[]⟩]) (.block 0 (.loop (.seq (.seq (.ops [⟨0,some 13,none,.mov (.t 8),[]⟩,⟨1,some 14,none,.bin .lss (.t 13) (.c (.int .i64 8)),[]⟩]) (.ite (.t 14) .skip (.exit 0))) (.seq (.block 1 (.seq (.seq (.ops [⟨0,some 17,none,.mov (.t 6),[]⟩,⟨1,some 18,none,.mov (.t 8),[]⟩,⟨2,some 19,none,.bin .shr (.t 17) (.t 18),[]⟩,⟨3,some 20,none,.bin .and (.t 19) (.c (.int .i64 1)),[]⟩,⟨4,some 21,none,.bin .eql (.t 20) (.c (.int .i64 1)),[]⟩]) (.ite (.t 21) (.ops [⟨0,some 22,none,.mov (.t 7),[]⟩,⟨1,some 23,none,.mov (.t 5),[]⟩,⟨2,some 24,none,.bin .xor (.t 22) (.t 23),[]⟩,⟨3,some 7,none,.mov (.t 24),[]⟩]) .skip)) (.seq (.ops [⟨0,some 25,none,.mov (.t 5),[]⟩,⟨1,some 26,none,.bin .shl (.t 25) (.c (.int .u64 1)),[]⟩,⟨2,some 5,none,.mov (.t 26),[]⟩]) (.seq (.ops [⟨0,some 27,none,.mov (.t 5),[]⟩,⟨1,some 28,none,.bin .and (.t 27) (.c (.int .i64 256)),[]⟩,⟨2,some 29,none,.bin .neq (.t 28) (.c (.int .i64 0)),[]⟩]) (.ite (.t 29) (.ops [⟨0,some 30,none,.mov (.t 5),[]⟩,⟨1,some 31,none,.bin .xor (.t 30) (.c (.int .i64 285)),[]⟩,⟨2,some 5,none,.mov (.t 31),[]⟩]) .skip))))) (.ops [⟨0,some 15,none,.mov (.t 8),[]⟩,⟨1,some 16,none,.bin .add (.t 15) (.c (.int .i64 1)),[]⟩,⟨2,some 8,none,.mov (.t 16),[]⟩])))))) (.seq (.ops [⟨0,some 32,none,.mov (.t 7),[]⟩,⟨1,some 33,none,.cnv .u8 (.t 32),[]⟩,⟨2,some 4,none,.mov (.t 33),[]⟩]) .ret)))
attribute [irreducible] c_cullettop_mul8
theorem run_cullettop_mul8 {args : List Value} {w : World} {K : Value → World → Prop} (hn : args.length ≤ 34) (h : WP Try.prog c_cullettop_mul8 (endQ [.t 4] K) (initT args) w) : CallV Try.prog 149 args w K :=
  call_of follows Try.func149 (by kernel_rfl) (by kernel_rfl) hn h
def c_cullettop_inv8 : C := .seq (.ops [⟨0,some 2,none,.mov (.c (.int .u8 0)),[]⟩]) (.seq (.ops [⟨0,some 3,none,.mov (.c (.int .u8 1)),[]⟩]) (.seq (.ops [⟨0,some 6,none,.mov (.t 0),[]⟩,⟨1,some 4,none,.mov (.t 6),[]⟩]) (.seq (.seq (.ops [⟨0,some 5,none,.mov (.c (.int .i64 1)),[]⟩]) (.block 0 (.loop (.seq (.seq (.ops [⟨0,some 7,none,.mov (.t 5),[]⟩,⟨1,some 8,none,.bin .lss (.t 7) (.c (.int .i64 8)),[]⟩]) (.ite (.t 8) .skip (.exit 0))) (.seq (.block 1 (.seq (.ops [⟨0,some 11,none,.mov (.t 4),[]⟩,⟨1,some 12,none,.mov (.t 4),[]⟩,⟨2,some 13,none,.call (.c (.func (.func 149) #[] #[])) [.t 11,.t 12],[]⟩,⟨3,some 4,none,.mov (.t 13),[]⟩]) (.ops [⟨0,some 14,none,.mov (.t 3),[]⟩,⟨1,some 15,none,.mov (.t 4),[]⟩,⟨2,some 16,none,.call (.c (.func (.func 149) #[] #[])) [.t 14,.t 15],[]⟩,⟨3,some 3,none,.mov (.t 16),[]⟩]))) (.ops [⟨0,some 9,none,.mov (.t 5),[]⟩,⟨1,some 10,none,.bin .add (.t 9) (.c (.int .i64 1)),[]⟩,⟨2,some 5,none,.mov (.t 10),[]⟩])))))) (.seq (.ops [⟨0,some 17,none,.mov (.t 3),[]⟩,⟨1,some 2,none,.mov (.t 17),[]⟩]) .ret))))
attribute [irreducible] c_cullettop_inv8
theorem run_cullettop_inv8 {args : List Value} {w : World} {K : Value → World → Prop} (hn : args.length ≤ 18) (h : WP Try.prog c_cullettop_inv8 (endQ [.t 2] K) (initT args) w) : CallV Try.prog 157 args w K :=
  call_of follows Try.func157 (by kernel_rfl) (by kernel_rfl) hn h
end Go.Proofs.Ytbaljbadlfopgaa.Fw
namespace Go.Proofs.Ytbaljbadlfopgaa.Fw
open Go Go.Fw
theorem bit_i64b (a : BitVec 8) (n : Nat) (hn : n ≤ 8) : bitsOp .and .i64 (shrV .i64 (a.toNat : Int) (n : Int)) 1 = (if a.getLsbD n then 1 else 0 : Int) := by
  rw [shr_nat .i64 a.toNat n (by show n ≤ 64; omega)]
  have h1 : a.toNat >>> n ≤ a.toNat := by rw [Nat.shiftRight_eq_div_pow]; exact Nat.div_le_self _ _
  have hlt := a.isLt
  have := bits_and fits_i64 (a := a.toNat >>> n) (b := 1) (by omega) (by decide)
  rw [and_one_shr] at this
  refine this.trans ?_
  show _ = if a.toNat.testBit n = true then (1 : Int) else 0
  split <;> rfl
theorem mx8_key : ∀ n : Nat, n < 256 → (if bitsOp .and .i64 (shlV .i64 (n : Int) 1) 256 = 0 then shlV .i64 (n : Int) 1 else bitsOp .xor .i64 (shlV .i64 (n : Int) 1) 285) = ((mx r8 (BitVec.ofNat 8 n)).toNat : Int) := by decide +kernel
theorem mx8_bv (p : BitVec 8) : (if bitsOp .and .i64 (shlV .i64 (p.toNat : Int) 1) 256 = 0 then shlV .i64 (p.toNat : Int) 1 else bitsOp .xor .i64 (shlV .i64 (p.toNat : Int) 1) 285) = ((mx r8 p).toNat : Int) := by
  have := mx8_key p.toNat p.isLt
  rw [BitVec.ofNat_toNat, BitVec.setWidth_eq] at this
  exact this
theorem cullettop_mul8_spec (w : World) (a b : El 8) : CallV Try.prog 149 [.int .u8 (a.v.toNat : Int), .int .u8 (b.v.toNat : Int)] w fun v w' => v = .int .u8 ((a * b).v.toNat : Int) ∧ w' = w := by
  have ha := a.v.isLt
  have hb := b.v.isLt
  refine run_cullettop_mul8 (by simp) ?_
  have ea : IntKind.i64.wrap (a.v.toNat : Int) = (a.v.toNat : Int) := wrap_id (by omega) (by omega)
  have eb : IntKind.i64.wrap (b.v.toNat : Int) = (b.v.toNat : Int) := wrap_id (by omega) (by omega)
  simp only [c_cullettop_mul8, WS, ↓reduceIte, Nat.reduceEqDiff, reduceCtorEq, ea, eb]
  refine loop_of (fun t w' => w' = w ∧ t 6 = .int .i64 (b.v.toNat : Int) ∧ ∃ i : Nat, t 8 = .int .i64 (i : Int) ∧ i ≤ 8 ∧ t 5 = .int .i64 ((pw r8 a.v i).toNat : Int) ∧ t 7 = .int .i64 ((bsum (fun i => sel (b.v.getLsbD i) (pw r8 a.v i)) i : BitVec 8).toNat : Int)) (fun t _ => 8 - (toI (t 8)).toNat) ⟨rfl, by simp only [WS, ↓reduceIte, Nat.reduceEqDiff, reduceCtorEq], 0, by simp only [WS, ↓reduceIte, Nat.reduceEqDiff, reduceCtorEq]; rfl, by omega, by simp only [WS, ↓reduceIte, Nat.reduceEqDiff, reduceCtorEq]; rfl, by simp only [WS, ↓reduceIte, Nat.reduceEqDiff, reduceCtorEq]; rfl⟩ ?_
  rintro t w' ⟨rfl, t6, i, t8, hi, t5, t7⟩
  by_cases hlt : i < 8
  · have e2 := bit_i64b b.v i (by omega)
    have hnn : ((0 : Int) ≤ (i : Int)) = True := eq_true (by omega)
    have hn1 : ((0 : Int) ≤ 1) = True := eq_true (by omega)
    have hmx := mx8_bv (pw r8 a.v i)
    have hp : mx r8 (pw r8 a.v i) = pw r8 a.v (i + 1) := rfl
    rw [hp] at hmx
    have hbs : (bsum (fun i => sel (b.v.getLsbD i) (pw r8 a.v i)) (i + 1) : BitVec 8) = bsum (fun i => sel (b.v.getLsbD i) (pw r8 a.v i)) i ^^^ sel (b.v.getLsbD i) (pw r8 a.v i) := rfl
    have q1 := (bsum (fun i => sel (b.v.getLsbD i) (pw r8 a.v i)) i : BitVec 8).isLt
    have q2 := (pw r8 a.v i).isLt
    have ex : bitsOp .xor .i64 ((bsum (fun i => sel (b.v.getLsbD i) (pw r8 a.v i)) i : BitVec 8).toNat : Int) ((pw r8 a.v i).toNat : Int) = ((bsum (fun i => sel (b.v.getLsbD i) (pw r8 a.v i)) i ^^^ pw r8 a.v i : BitVec 8).toNat : Int) := by
      rw [bits_xor fits_i64 (by omega) (by omega), ← BitVec.toNat_xor]
    by_cases hbit : b.v.getLsbD i = true
    · rw [if_pos hbit] at e2
      rw [show sel (b.v.getLsbD i) (pw r8 a.v i) = pw r8 a.v i by rw [hbit]; rfl] at hbs
      rw [← hbs] at ex
      by_cases hz : bitsOp .and .i64 (shlV .i64 ((pw r8 a.v i).toNat : Int) 1) 256 = 0
      · rw [if_pos hz] at hmx
        rw [hmx] at hz
        simp (maxSteps := 1000000) (disch := omega) only [WS, ↓reduceIte, Nat.reduceEqDiff, reduceCtorEq, AS, t5, t6, t7, t8, X_shr, X_shl, hnn, hn1, e2, show decide ((1 : Int) = 1) = true from rfl, ex, decide_eq_true hz, hmx]
        exact ⟨⟨i + 1, rfl, by omega, rfl, rfl⟩, by omega⟩
      · rw [if_neg hz] at hmx
        have dz := decide_eq_true (show bitsOp .and .i64 (shlV .i64 ((pw r8 a.v i).toNat : Int) 1) 256 ≠ 0 from hz)
        simp (maxSteps := 1000000) (disch := omega) only [WS, ↓reduceIte, Nat.reduceEqDiff, reduceCtorEq, AS, t5, t6, t7, t8, X_shr, X_shl, hnn, hn1, e2, show decide ((1 : Int) = 1) = true from rfl, ex, dz, hmx]
        exact ⟨⟨i + 1, rfl, by omega, rfl, rfl⟩, by omega⟩
    · rw [if_neg hbit] at e2
      rw [show sel (b.v.getLsbD i) (pw r8 a.v i) = 0#8 by rw [Bool.eq_false_iff.2 hbit]; rfl, BitVec.xor_zero] at hbs
      by_cases hz : bitsOp .and .i64 (shlV .i64 ((pw r8 a.v i).toNat : Int) 1) 256 = 0
      · rw [if_pos hz] at hmx
        rw [hmx] at hz
        simp (maxSteps := 1000000) (disch := omega) only [WS, ↓reduceIte, Nat.reduceEqDiff, reduceCtorEq, AS, t5, t6, t7, t8, X_shr, X_shl, hnn, hn1, e2, show decide ((0 : Int) = 1) = false from rfl, decide_eq_true hz, hmx]
        exact ⟨⟨i + 1, rfl, by omega, rfl, by rw [hbs]⟩, by omega⟩
      · rw [if_neg hz] at hmx
        have dz := decide_eq_true (show bitsOp .and .i64 (shlV .i64 ((pw r8 a.v i).toNat : Int) 1) 256 ≠ 0 from hz)
        simp (maxSteps := 1000000) (disch := omega) only [WS, ↓reduceIte, Nat.reduceEqDiff, reduceCtorEq, AS, t5, t6, t7, t8, X_shr, X_shl, hnn, hn1, e2, show decide ((0 : Int) = 1) = false from rfl, dz, hmx]
        exact ⟨⟨i + 1, rfl, by omega, rfl, by rw [hbs]⟩, by omega⟩
  obtain rfl : i = 8 := by omega
  have e9 : IntKind.u8.wrap ((bsum (fun i => sel (b.v.getLsbD i) (pw r8 a.v i)) 8 : BitVec 8).toNat : Int) = ((a * b).v.toNat : Int) := by
    have := (bsum (fun i => sel (b.v.getLsbD i) (pw r8 a.v i)) 8 : BitVec 8).isLt
    rw [wrap_u8m, Nat.mod_eq_of_lt this]
    rfl
  simp (maxSteps := 1000000) (disch := omega) only [WS, ↓reduceIte, Nat.reduceEqDiff, reduceCtorEq, AS, t5, t6, t7, t8, show decide (((8 : Nat) : Int) < 8) = false from rfl, e9]
theorem cullettop_inv8_spec (w : World) (a : El 8) : CallV Try.prog 157 [.int .u8 (a.v.toNat : Int)] w fun v w' => v = .int .u8 (a.inv.v.toNat : Int) ∧ w' = w := by
  refine run_cullettop_inv8 (by simp) ?_
  simp only [c_cullettop_inv8, WS, ↓reduceIte, Nat.reduceEqDiff, reduceCtorEq]
  refine loop_of (fun t w2 => w2 = w ∧ ∃ i : Nat, t 5 = .int .i64 ((i + 1 : Nat) : Int) ∧ i ≤ 7 ∧ t 3 = .int .u8 ((pin a i).v.toNat : Int) ∧ t 4 = .int .u8 ((sqn a i).v.toNat : Int)) (fun t _ => 8 - (toI (t 5)).toNat) ⟨rfl, 0, by simp only [WS, ↓reduceIte, Nat.reduceEqDiff, reduceCtorEq]; rfl, by omega, by simp only [WS, ↓reduceIte, Nat.reduceEqDiff, reduceCtorEq]; rfl, by simp only [WS, ↓reduceIte, Nat.reduceEqDiff, reduceCtorEq]; rfl⟩ ?_
  rintro t w2 ⟨rfl, i, t5, hi, t3, t4⟩
  by_cases hlt : i < 7
  · have e1 : IntKind.i64.wrap (((i + 1 : Nat) : Int) + 1) = ((i + 1 + 1 : Nat) : Int) := by rw [wrap_id (by omega) (by omega)]; omega
    have d1 : decide (((i + 1 : Nat) : Int) < 8) = true := decide_eq_true (by omega)
    simp (maxSteps := 1000000) only [WS, ↓reduceIte, Nat.reduceEqDiff, reduceCtorEq, t3, t4, t5, d1]
    refine X_call0 ((cullettop_mul8_spec w2 (sqn a i) (sqn a i)).mono ?_)
    rintro _ w3 ⟨rfl, rfl⟩
    simp (maxSteps := 1000000) only [WS, ↓reduceIte, Nat.reduceEqDiff, reduceCtorEq, t3, t4, t5]
    refine X_call0 ((cullettop_mul8_spec w3 (pin a i) (sqn a i * sqn a i)).mono ?_)
    rintro _ w4 ⟨rfl, rfl⟩
    simp (maxSteps := 1000000) only [WS, ↓reduceIte, Nat.reduceEqDiff, reduceCtorEq, t3, t4, t5, e1, toI_int]
    exact ⟨⟨i + 1, rfl, by omega, rfl, rfl⟩, by omega⟩
  · obtain rfl : i = 7 := by omega
    rw [pin_inv8] at t3
    simp (maxSteps := 1000000) (disch := omega) only [WS, ↓reduceIte, Nat.reduceEqDiff, reduceCtorEq, AS, t3, t4, t5, show decide (((7 + 1 : Nat) : Int) < 8) = false from rfl]
end Go.Proofs.Ytbaljbadlfopgaa.Fw

set_option linter.unusedVariables false
set_option linter.unusedSimpArgs false
set_option maxRecDepth 100000
set_option maxHeartbeats 1000000
namespace Go.Proofs.Ytbaljbadlfopgaa.Fw
open Go Go.Fw Go.Proofs
attribute [local irreducible] stepI
def c_cullettop_ints : C := .seq (.ops [⟨0,some 4,none,.mov (.c (.bool false)),[]⟩]) (.seq (.seq (.ops [⟨0,some 6,none,.mov (.t 0),[]⟩,⟨1,some 7,none,.len (.t 6),[]⟩,⟨2,some 8,none,.mov (.t 1),[]⟩,⟨3,some 9,none,.len (.t 8),[]⟩,⟨4,some 10,none,.bin .neq (.t 7) (.t 9),[]⟩]) (.ite (.t 10) (.seq (.ops [⟨0,some 4,none,.mov (.c (.bool false)),[]⟩]) .ret) .skip)) (.seq (.seq (.ops [⟨0,some 11,none,.mov (.t 0),[]⟩,⟨1,some 12,none,.len (.t 11),[]⟩,⟨2,some 13,none,.mov (.c (.int .i64 0)),[]⟩]) (.block 0 (.loop (.seq (.ops [⟨0,some 14,none,.bin .lss (.t 13) (.t 12),[]⟩]) (.seq (.ite (.t 14) .skip (.exit 0)) (.seq (.block 1 (.seq (.ops [⟨0,some 15,none,.mov (.t 13),[]⟩,⟨1,some 5,none,.mov (.t 15),[]⟩]) (.seq (.dops [⟨0,some 16,none,.mov (.t 0),[]⟩,⟨1,some 17,none,.mov (.t 5),[]⟩,⟨2,some 18,none,.ixs 1 (.t 16) (.t 17),[]⟩,⟨3,some 19,none,.ld (.t 18),[]⟩,⟨4,some 20,none,.mov (.t 1),[]⟩,⟨5,some 21,none,.mov (.t 5),[]⟩,⟨6,some 22,none,.ixs 1 (.t 20) (.t 21),[]⟩,⟨7,some 23,none,.ld (.t 22),[]⟩,⟨8,some 24,none,.bin .neq (.t 19) (.t 23),[]⟩]) (.ite (.t 24) (.seq (.ops [⟨0,some 4,none,.mov (.c (.bool false)),[]⟩]) .ret) .skip)))) (.ops [⟨0,some 25,none,.bin .add (.t 13) (.c (.int .i64 1)),[]⟩,⟨1,some 13,none,.mov (.t 25),[]⟩]))))))) (.seq (.ops [⟨0,some 4,none,.mov (.c (.bool true)),[]⟩]) .ret)))
attribute [irreducible] c_cullettop_ints
theorem run_cullettop_ints {args : List Value} {w : World} {K : Value → World → Prop} (hn : args.length ≤ 26) (h : WP Try.prog c_cullettop_ints (endQ [.t 4] K) (initT args) w) : CallV Try.prog 44 args w K :=
  call_of follows Try.func44 (by kernel_rfl) (by kernel_rfl) hn h
def c_cullettop_same : C := .seq (.ops [⟨0,some 4,none,.mov (.c (.bool false)),[]⟩]) (.seq (.seq (.ops [⟨0,some 6,none,.mov (.t 0),[]⟩,⟨1,some 7,none,.len (.t 6),[]⟩,⟨2,some 8,none,.mov (.t 1),[]⟩,⟨3,some 9,none,.len (.t 8),[]⟩,⟨4,some 10,none,.bin .neq (.t 7) (.t 9),[]⟩]) (.ite (.t 10) (.seq (.ops [⟨0,some 4,none,.mov (.c (.bool false)),[]⟩]) .ret) .skip)) (.seq (.seq (.ops [⟨0,some 11,none,.mov (.t 0),[]⟩,⟨1,some 12,none,.len (.t 11),[]⟩,⟨2,some 13,none,.mov (.c (.int .i64 0)),[]⟩]) (.block 0 (.loop (.seq (.ops [⟨0,some 14,none,.bin .lss (.t 13) (.t 12),[]⟩]) (.seq (.ite (.t 14) .skip (.exit 0)) (.seq (.block 1 (.seq (.ops [⟨0,some 15,none,.mov (.t 13),[]⟩,⟨1,some 5,none,.mov (.t 15),[]⟩]) (.seq (.dops [⟨0,some 16,none,.mov (.t 0),[]⟩,⟨1,some 17,none,.mov (.t 5),[]⟩,⟨2,some 18,none,.ixs 1 (.t 16) (.t 17),[]⟩,⟨3,some 19,none,.ld (.t 18),[]⟩,⟨4,some 20,none,.s2t (.t 19),[]⟩,⟨5,some 21,none,.mov (.t 1),[]⟩,⟨6,some 22,none,.mov (.t 5),[]⟩,⟨7,some 23,none,.ixs 1 (.t 21) (.t 22),[]⟩,⟨8,some 24,none,.ld (.t 23),[]⟩,⟨9,some 25,none,.s2t (.t 24),[]⟩,⟨10,some 26,none,.eqt true (.t 20) (.t 25),[]⟩]) (.ite (.t 26) (.seq (.ops [⟨0,some 4,none,.mov (.c (.bool false)),[]⟩]) .ret) .skip)))) (.ops [⟨0,some 27,none,.bin .add (.t 13) (.c (.int .i64 1)),[]⟩,⟨1,some 13,none,.mov (.t 27),[]⟩]))))))) (.seq (.ops [⟨0,some 4,none,.mov (.c (.bool true)),[]⟩]) .ret)))
attribute [irreducible] c_cullettop_same
theorem run_cullettop_same {args : List Value} {w : World} {K : Value → World → Prop} (hn : args.length ≤ 28) (h : WP Try.prog c_cullettop_same (endQ [.t 4] K) (initT args) w) : CallV Try.prog 45 args w K :=
  call_of follows Try.func45 (by kernel_rfl) (by kernel_rfl) hn h
def c_cullettop_right : C := .seq (.ops [⟨0,some 6,none,.mov (.c (.bool false)),[]⟩]) (.seq (.seq (.ops [⟨0,some 9,none,.mov (.t 2),[]⟩,⟨1,some 10,none,.len (.t 9),[]⟩,⟨2,some 11,none,.mov (.t 1),[]⟩,⟨3,some 12,none,.bin .neq (.t 10) (.t 11),[]⟩,⟨4,some 13,none,.mov (.t 12),[]⟩,⟨5,some 14,(some (13,false)),.mov (.t 1),[]⟩,⟨6,some 15,(some (13,false)),.bin .lss (.t 14) (.c (.int .i64 1)),[]⟩,⟨7,some 16,none,.pick (.t 13) (.c (.bool true)) (.t 15),[]⟩,⟨8,some 17,none,.mov (.t 16),[]⟩,⟨9,some 18,(some (17,false)),.mov (.t 2),[]⟩,⟨10,some 19,(some (17,false)),.ixs 1 (.t 18) (.c (.int .i64 0)),[]⟩,⟨11,some 20,(some (17,false)),.ld (.t 19),[]⟩,⟨12,some 21,(some (17,false)),.len (.t 20),[]⟩,⟨13,some 22,(some (17,false)),.bin .lss (.t 21) (.c (.int .i64 1)),[]⟩,⟨14,some 23,none,.pick (.t 17) (.c (.bool true)) (.t 22),[]⟩,⟨15,some 24,none,.mov (.t 23),[]⟩,⟨16,some 25,(some (24,false)),.mov (.t 0),[]⟩,⟨17,some 26,(some (24,false)),.bin .eql (.t 25) (.c (.int .i64 2)),[]⟩,⟨18,some 27,(some (24,false)),.mov (.t 26),[]⟩,⟨19,some 28,(some (27,true)),.mov (.t 2),[]⟩,⟨20,some 29,(some (27,true)),.ixs 1 (.t 28) (.c (.int .i64 0)),[]⟩,⟨21,some 30,(some (27,true)),.ld (.t 29),[]⟩,⟨22,some 31,(some (27,true)),.len (.t 30),[]⟩,⟨23,some 32,(some (27,true)),.bin .rem (.t 31) (.c (.int .i64 2)),[]⟩,⟨24,some 33,(some (27,true)),.bin .eql (.t 32) (.c (.int .i64 1)),[]⟩,⟨25,some 34,(some (24,false)),.pick (.t 27) (.t 33) (.c (.bool false)),[]⟩,⟨26,some 35,none,.pick (.t 24) (.c (.bool true)) (.t 34),[]⟩]) (.ite (.t 35) (.seq (.ops [⟨0,some 6,none,.mov (.c (.bool false)),[]⟩]) .ret) .skip)) (.seq (.seq (.ops [⟨0,some 36,none,.mov (.t 2),[]⟩,⟨1,some 37,none,.len (.t 36),[]⟩,⟨2,some 38,none,.mov (.c (.int .i64 0)),[]⟩]) (.block 0 (.loop (.seq (.ops [⟨0,some 39,none,.bin .lss (.t 38) (.t 37),[]⟩]) (.seq (.ite (.t 39) .skip (.exit 0)) (.seq (.block 1 (.seq (.ops [⟨0,some 40,none,.ixs 1 (.t 36) (.t 38),[]⟩,⟨1,some 41,none,.ld (.t 40),[]⟩,⟨2,some 8,none,.mov (.t 41),[]⟩]) (.seq (.ops [⟨0,some 42,none,.mov (.t 8),[]⟩,⟨1,some 43,none,.len (.t 42),[]⟩,⟨2,some 44,none,.mov (.t 2),[]⟩,⟨3,some 45,none,.ixs 1 (.t 44) (.c (.int .i64 0)),[]⟩,⟨4,some 46,none,.ld (.t 45),[]⟩,⟨5,some 47,none,.len (.t 46),[]⟩,⟨6,some 48,none,.bin .neq (.t 43) (.t 47),[]⟩]) (.ite (.t 48) (.seq (.ops [⟨0,some 6,none,.mov (.c (.bool false)),[]⟩]) .ret) .skip)))) (.ops [⟨0,some 49,none,.bin .add (.t 38) (.c (.int .i64 1)),[]⟩,⟨1,some 38,none,.mov (.t 49),[]⟩]))))))) (.seq (.ops [⟨0,some 6,none,.mov (.c (.bool true)),[]⟩]) .ret)))
attribute [irreducible] c_cullettop_right
theorem run_cullettop_right {args : List Value} {w : World} {K : Value → World → Prop} (hn : args.length ≤ 50) (h : WP Try.prog c_cullettop_right (endQ [.t 6] K) (initT args) w) : CallV Try.prog 46 args w K :=
  call_of follows Try.func46 (by kernel_rfl) (by kernel_rfl) hn h
def c_cullettop_twin : C := .seq (.ops [⟨0,some 2,none,.mov (.c (.slice none 0 0)),[]⟩]) (.seq (.ops [⟨0,some 6,none,.bsl 25 0 [.slice none 0 0] [],[]⟩,⟨1,some 3,none,.mov (.t 6),[]⟩]) (.seq (.seq (.ops [⟨0,some 7,none,.mov (.t 0),[]⟩,⟨1,some 8,none,.len (.t 7),[]⟩,⟨2,some 9,none,.mov (.c (.int .i64 0)),[]⟩]) (.block 0 (.loop (.seq (.ops [⟨0,some 10,none,.bin .lss (.t 9) (.t 8),[]⟩]) (.seq (.ite (.t 10) .skip (.exit 0)) (.seq (.block 1 (.seq (.ops [⟨0,some 11,none,.ixs 1 (.t 7) (.t 9),[]⟩,⟨1,some 12,none,.ld (.t 11),[]⟩,⟨2,some 5,none,.mov (.t 12),[]⟩]) (.ops [⟨0,some 13,none,.mov (.t 3),[]⟩,⟨1,some 14,none,.bsl 5 0 [.int .u8 0] [],[]⟩,⟨2,some 15,none,.mov (.t 5),[]⟩,⟨3,some 16,none,.app 5 1 [.int .u8 0] (.t 14) (.t 15),[]⟩,⟨4,some 17,none,.bsl 25 1 [.slice none 0 0] [(0,(1,.t 16))],[]⟩,⟨5,some 18,none,.app 25 24 [.slice none 0 0] (.t 13) (.t 17),[]⟩,⟨6,some 3,none,.mov (.t 18),[]⟩]))) (.ops [⟨0,some 19,none,.bin .add (.t 9) (.c (.int .i64 1)),[]⟩,⟨1,some 9,none,.mov (.t 19),[]⟩]))))))) (.seq (.ops [⟨0,some 20,none,.mov (.t 3),[]⟩,⟨1,some 2,none,.mov (.t 20),[]⟩]) .ret)))
attribute [irreducible] c_cullettop_twin
theorem run_cullettop_twin {args : List Value} {w : World} {K : Value → World → Prop} (hn : args.length ≤ 21) (h : WP Try.prog c_cullettop_twin (endQ [.t 2] K) (initT args) w) : CallV Try.prog 48 args w K :=
  call_of follows Try.func48 (by kernel_rfl) (by kernel_rfl) hn h
end Go.Proofs.Ytbaljbadlfopgaa.Fw
namespace Go.Proofs.Ytbaljbadlfopgaa.Fw
open Go Go.Fw
theorem cullettop_ints_spec (w : World) (s1 s2 : Value) (l1 l2 : List Int) (h1 : Sl w s1 l1) (h2 : Sl w s2 l2) (hb : l1.length ≤ 140737488355328) (hb2 : l2.length ≤ 140737488355328) :
    CallV Try.prog 44 [s1, s2] w fun v w' => v = .bool (decide (l1 = l2)) ∧ Like w w' := by
  refine run_cullettop_ints (by simp) ?_
  simp only [c_cullettop_ints, WS, ↓reduceIte, Nat.reduceEqDiff, reduceCtorEq, h1.Xlen, h2.Xlen]
  by_cases hl : l1.length = l2.length
  · simp (maxSteps := 1000000) (disch := omega) only [WS, ↓reduceIte, Nat.reduceEqDiff, reduceCtorEq, AS, hl, ne_eq, not_true_eq_false, decide_false, h1.Xlen]
    refine loop_of (fun t w' => Like w w' ∧ t 0 = s1 ∧ t 1 = s2 ∧ t 12 = .int .i64 (l2.length : Int) ∧ ∃ i : Nat, t 13 = .int .i64 (i : Int) ∧ i ≤ l1.length ∧ l1.take i = l2.take i) (fun t _ => l1.length - (toI (t 13)).toNat) ⟨Like.refl w, by simp only [WS, ↓reduceIte, Nat.reduceEqDiff, reduceCtorEq], by simp only [WS, ↓reduceIte, Nat.reduceEqDiff, reduceCtorEq], by simp only [WS, ↓reduceIte, Nat.reduceEqDiff, reduceCtorEq], 0, by simp only [WS, ↓reduceIte, Nat.reduceEqDiff, reduceCtorEq]; rfl, by omega, by simp⟩ ?_
    rintro t w' ⟨hk, t0, t1, t12, i, t13, hi, he⟩
    by_cases hlt : i < l1.length
    · have hlt2 : i < l2.length := by omega
      have hlti : (i : Int) < (l2.length : Int) := by omega
      simp (maxSteps := 1000000) (disch := omega) only [WS, ↓reduceIte, Nat.reduceEqDiff, reduceCtorEq, AS, t0, t1, t12, t13]
      refine WP_dops ?_
      have hk := hk.trans (Like.drew _)
      have g1 := hk.sl h1
      have g2 := hk.sl h2
      simp (maxSteps := 1000000) (disch := omega) only [ES, List.mem_cons, List.not_mem_nil, implies_true, forall_const, WS, ↓reduceIte, Nat.reduceEqDiff, reduceCtorEq, AS, t0, t1, t12, t13, g1.Eix hlt, g1.Eld hlt, g2.Eix hlt2, g2.Eld hlt2, cell_int]
      by_cases hx : l1[i] = l2[i]
      · simp (maxSteps := 1000000) (disch := omega) only [WS, ↓reduceIte, Nat.reduceEqDiff, reduceCtorEq, AS, t0, t1, t12, t13, hx, ne_eq, not_true_eq_false, decide_false]
        refine ⟨⟨hk, i + 1, rfl, by omega, ?_⟩, by omega⟩
        rw [List.take_add_one, List.take_add_one, he, List.getElem?_eq_getElem hlt, List.getElem?_eq_getElem hlt2, hx]
      · have : ¬ l1 = l2 := fun e => hx (by subst e; rfl)
        simp (maxSteps := 1000000) (disch := omega) only [WS, ↓reduceIte, Nat.reduceEqDiff, reduceCtorEq, AS, t0, t1, t12, t13, decide_eq_true (show l1[i] ≠ l2[i] from hx), decide_eq_false this]
        exact hk
    · rw [List.take_of_length_le (by omega), List.take_of_length_le (by omega)] at he
      simp (maxSteps := 1000000) (disch := omega) only [WS, ↓reduceIte, Nat.reduceEqDiff, reduceCtorEq, AS, t0, t1, t12, t13, decide_eq_true he]
      exact hk
  · have : ¬ l1 = l2 := fun e => hl (by rw [e])
    have hn : (l1.length : Int) ≠ (l2.length : Int) := by omega
    simp (maxSteps := 1000000) (disch := omega) only [WS, ↓reduceIte, Nat.reduceEqDiff, reduceCtorEq, AS, decide_eq_true hn, decide_eq_false this]
    exact Like.refl w
theorem cullettop_same_spec (w : World) (s1 s2 : Value) (hs1 hs2 : List Hd) (R1 R2 : Nat → List (El 8)) (h1 : Sl w s1 hs1) (h2 : Sl w s2 hs2) (hr1 : ∀ j (hj : j < hs1.length), Sl w (Cell.v hs1[j]) (R1 j)) (hr2 : ∀ j (hj : j < hs2.length), Sl w (Cell.v hs2[j]) (R2 j)) (hn1 : hs1.length ≤ 140737488355328) (hn2 : hs2.length ≤ 140737488355328) :
    CallV Try.prog 45 [s1, s2] w fun v w' => Like w w' ∧ ∃ b, v = .bool b ∧ (b = true ↔ hs1.length = hs2.length ∧ ∀ j, j < hs1.length → R1 j = R2 j) := by
  refine run_cullettop_same (by simp) ?_
  simp only [c_cullettop_same, WS, ↓reduceIte, Nat.reduceEqDiff, reduceCtorEq, h1.Xlen, h2.Xlen]
  by_cases hll : hs1.length = hs2.length
  rotate_left
  · have hn : (hs1.length : Int) ≠ (hs2.length : Int) := by omega
    simp (maxSteps := 1000000) (disch := omega) only [WS, ↓reduceIte, Nat.reduceEqDiff, reduceCtorEq, AS, decide_eq_true hn]
    exact ⟨Like.refl _, false, rfl, (fun e => by cases e), fun e => absurd e.1 hll⟩
  simp (maxSteps := 1000000) (disch := omega) only [WS, ↓reduceIte, Nat.reduceEqDiff, reduceCtorEq, AS, decide_eq_false (show ¬ ((hs1.length : Int) ≠ (hs2.length : Int)) from fun e => e (by omega)), h1.Xlen]
  refine loop_of (fun t w' => t 0 = s1 ∧ t 1 = s2 ∧ t 12 = .int .i64 (hs1.length : Int) ∧ Like w w' ∧ ∃ i : Nat, t 13 = .int .i64 (i : Int) ∧ i ≤ hs1.length ∧ ∀ j, j < i → R1 j = R2 j) (fun t _ => hs1.length - (toI (t 13)).toNat) ⟨by simp only [WS, ↓reduceIte, Nat.reduceEqDiff, reduceCtorEq], by simp only [WS, ↓reduceIte, Nat.reduceEqDiff, reduceCtorEq], by simp only [WS, ↓reduceIte, Nat.reduceEqDiff, reduceCtorEq], Like.refl w, 0, by simp only [WS, ↓reduceIte, Nat.reduceEqDiff, reduceCtorEq]; rfl, by omega, fun j hj => absurd hj (Nat.not_lt_zero _)⟩ ?_
  rintro t w1 ⟨t0, t1, t12, B, i, t13, hi, hR⟩
  by_cases hil : i < hs1.length
  rotate_left
  · simp (maxSteps := 1000000) (disch := omega) only [WS, ↓reduceIte, Nat.reduceEqDiff, reduceCtorEq, AS, t0, t1, t12, t13]
    exact ⟨B, true, rfl, fun _ => ⟨hll, fun j hj => hR j (by omega)⟩, fun _ => rfl⟩
  have hili : (i : Int) < (hs1.length : Int) := by omega
  simp (maxSteps := 1000000) (disch := omega) only [WS, ↓reduceIte, Nat.reduceEqDiff, reduceCtorEq, AS, t0, t1, t12, t13]
  refine WP_dops ?_
  have B := B.trans (Like.drew _)
  have hil2 : i < hs2.length := by omega
  have r1 := B.sl (hr1 i hil)
  have r2 := B.sl (hr2 i hil2)
  have h1' := B.sl h1
  have h2' := B.sl h2
  by_cases he : R1 i = R2 i
  · have dd : (decide (R1 i = R2 i) != true) = false := by rw [decide_eq_true he]; rfl
    simp (maxSteps := 1000000) (disch := omega) only [ES, List.mem_cons, List.not_mem_nil, implies_true, forall_const, WS, ↓reduceIte, Nat.reduceEqDiff, reduceCtorEq, AS, t0, t1, t12, t13, h1'.Eix hil, h1'.Eld hil, h2'.Eix hil2, h2'.Eld hil2, r1.Es2t, r2.Es2t, dd]
    refine ⟨⟨B, i + 1, rfl, by omega, fun j hj => ?_⟩, by omega⟩
    by_cases e : j = i
    · rw [e]; exact he
    · exact hR j (by omega)
  · have dd : (decide (R1 i = R2 i) != true) = true := by rw [decide_eq_false he]; rfl
    simp (maxSteps := 1000000) (disch := omega) only [ES, List.mem_cons, List.not_mem_nil, implies_true, forall_const, WS, ↓reduceIte, Nat.reduceEqDiff, reduceCtorEq, AS, t0, t1, t12, t13, h1'.Eix hil, h1'.Eld hil, h2'.Eix hil2, h2'.Eld hil2, r1.Es2t, r2.Es2t, dd]
    exact ⟨B, false, rfl, (fun e => by cases e), fun h => absurd (h.2 i hil) he⟩
theorem cullettop_twin_spec (w : World) (s : Value) (hs : List Hd) (R : Nat → List (El 8)) (h : Sl w s hs) (hr : ∀ j (hj : j < hs.length), Sl w (Cell.v hs[j]) (R j)) (hn : hs.length ≤ 1099511627776) (hl : ∀ j, j < hs.length → (R j).length ≤ 140737488355328) :
    CallV Try.prog 48 [s] w fun v w' => RowKit.Below w.heap.size w w' ∧ ∃ hs' : List Hd, hs'.length = hs.length ∧ ShT w.heap.size v hs' R w' := by
  refine run_cullettop_twin (by simp) ?_
  simp only [c_cullettop_twin, WS, ↓reduceIte, Nat.reduceEqDiff, reduceCtorEq]
  refine X_bsl (zs := ([] : List Hd)) (by rfl) (by rfl) fun sv w1 ov hB => ?_
  simp (maxSteps := 1000000) (disch := omega) only [WS, ↓reduceIte, Nat.reduceEqDiff, reduceCtorEq, AS, (h.up hB).Xlen]
  refine loop_of (fun t w' => t 7 = s ∧ t 8 = .int .i64 (hs.length : Int) ∧ RowKit.Below w.heap.size w w' ∧ ∃ (i : Nat) (v : Value) (hs' : List Hd) (Rc : Nat → List (El 8)), t 9 = .int .i64 (i : Int) ∧ i ≤ hs.length ∧ t 3 = v ∧ hs'.length = i ∧ (∀ j, j < i → Rc j = R j) ∧ ShT w.heap.size v hs' Rc w') (fun t _ => hs.length - (toI (t 9)).toNat)
    ⟨by simp only [WS, ↓reduceIte, Nat.reduceEqDiff, reduceCtorEq], by simp only [WS, ↓reduceIte, Nat.reduceEqDiff, reduceCtorEq], hB, 0, sv, [], _, by simp only [WS, ↓reduceIte, Nat.reduceEqDiff, reduceCtorEq]; rfl, by omega, by simp only [WS, ↓reduceIte, Nat.reduceEqDiff, reduceCtorEq], rfl, fun j hj => absurd hj (Nat.not_lt_zero _), ShT.nil ov⟩ ?_
  clear hB ov sv w1
  rintro t w2 ⟨t7, t8, B, i, v, hsA, Rc, t9, hi, t3, lhs, hRc, hS⟩
  have z2 := B.size
  have h' := h.up B
  by_cases hil : i < hs.length
  rotate_left
  · simp (maxSteps := 1000000) (disch := omega) only [WS, ↓reduceIte, Nat.reduceEqDiff, reduceCtorEq, AS, t3, t7, t8, t9]
    exact ⟨B, hsA, by omega, hS.congr fun j hj => (hRc j (by omega)).symm⟩
  have hr' := (hr i hil).up B
  have hli := hl i hil
  simp (maxSteps := 1000000) (disch := omega) only [WS, ↓reduceIte, Nat.reduceEqDiff, reduceCtorEq, AS, t3, t7, t8, t9, h'.Xix hil, h'.Xld hil]
  refine X_bslE fun p0 w3 op hB0 => ?_
  simp (maxSteps := 1000000) (disch := omega) only [WS, ↓reduceIte, Nat.reduceEqDiff, reduceCtorEq, AS, t3, t7, t8, t9]
  refine op.Xapp (hr'.up hB0) hB0 hB0.size (by simp only [maxBytes]; omega) (by decide) (by omega) fun c1 w4 oc hB _ => ?_
  have hcv : Cell.v (hd c1) = c1 := oc.sl.hd.1
  have z4 := hB.size
  simp (maxSteps := 1000000) (disch := omega) only [WS, ↓reduceIte, Nat.reduceEqDiff, reduceCtorEq, AS, t3, t7, t8, t9]
  rw [← hcv]
  refine X_bsl (zs := [hd c1]) (by rfl) (by rfl) fun e1 w5 oe hB5 => ?_
  have B5 := B.trans ((hB.trans (hB5.mono hB.size)).mono B.size)
  have z5 := hB5.size
  have ot := (hS.top.up hB).up hB5
  simp (maxSteps := 1000000) (disch := omega) only [WS, ↓reduceIte, Nat.reduceEqDiff, reduceCtorEq, AS, t3, t7, t8, t9]
  refine Ow.Xapp2 ot oe.sl (by omega) (by simp only [List.length_singleton, maxBytes]; omega) (by simp only [List.length_singleton]; omega) fun v' w6 ov' hg => ?_
  have hS6 := hS.push z2 hB oc hB5 hg ov'
  have B6 := hg.below B5 (by omega) fun b hb => (ot.blk b hb).1
  simp (maxSteps := 1000000) (disch := omega) only [WS, ↓reduceIte, Nat.reduceEqDiff, reduceCtorEq, AS, t3, t7, t8, t9]
  refine ⟨⟨B6, i + 1, v', _, _, rfl, by omega, rfl, by rw [List.length_append, lhs]; rfl, fun j hj => ?_, hS6⟩, by omega⟩
  by_cases e : j = i
  · rw [if_pos (by omega), e]
  · rw [if_neg (by omega)]; exact hRc j (by omega)
theorem cullettop_right_spec (w : World) (f k : Int) (s : Value) (hs : List Hd) (h : Sl w s hs) (hb : hs.length ≤ 140737488355328) (hb2 : ∀ j, hln hs j ≤ 140737488355328) :
    CallV Try.prog 46 [.int .i64 f, .int .i64 k, s] w fun v w' => Like w w' ∧ ∃ b, v = .bool b ∧ (b = true ↔ (hs.length : Int) = k ∧ 1 ≤ k ∧ 1 ≤ hln hs 0 ∧ (f = 2 → hln hs 0 % 2 = 0) ∧ ∀ j, j < hs.length → hln hs j = hln hs 0) := by
  refine run_cullettop_right (by simp) ?_
  simp only [c_cullettop_right, WS, ↓reduceIte, Nat.reduceEqDiff, reduceCtorEq, h.Xlen]
  by_cases h1 : (hs.length : Int) = k
  rotate_left
  · simp (maxSteps := 1000000) (disch := omega) only [WS, ↓reduceIte, Nat.reduceEqDiff, reduceCtorEq, AS, decide_eq_true (show (hs.length : Int) ≠ k from h1)]
    exact ⟨Like.refl _, false, rfl, (fun e => by cases e), fun e => absurd e.1 h1⟩
  by_cases h2 : k < 1
  · simp (maxSteps := 1000000) (disch := omega) only [WS, ↓reduceIte, Nat.reduceEqDiff, reduceCtorEq, AS, decide_eq_false (show ¬ (hs.length : Int) ≠ k from fun e => e h1), decide_eq_true h2]
    exact ⟨Like.refl _, false, rfl, (fun e => by cases e), fun e => by omega⟩
  have h0 : 0 < hs.length := by omega
  have hx0 := hln_get hs h0
  have hbz := hb2 0
  by_cases h3 : hs[0].n < 1
  · have h3' : ((hs[0].n : Nat) : Int) < 1 := by omega
    simp (maxSteps := 1000000) (disch := omega) only [WS, ↓reduceIte, Nat.reduceEqDiff, reduceCtorEq, AS, decide_eq_false (show ¬ (hs.length : Int) ≠ k from fun e => e h1), decide_eq_false h2, h.Xix0 h0, h.Xld h0, cell_hd, X_lenS, decide_eq_true h3']
    exact ⟨Like.refl _, false, rfl, (fun e => by cases e), fun e => by omega⟩
  have h3' : ¬ ((hs[0].n : Nat) : Int) < 1 := by omega
  have hn2 : ((2 : Int) ≠ 0) = True := eq_true (by decide)
  have em : ((hs[0].n : Nat) : Int).tmod 2 = ((hs[0].n % 2 : Nat) : Int) := tmod_nat _ 2
  have key : ∀ (d : Prop) (_ : d), d := fun d h => h
  by_cases h4 : f = 2 ∧ hs[0].n % 2 = 1
  · have h4' : ((hs[0].n % 2 : Nat) : Int) = 1 := by omega
    simp (maxSteps := 1000000) (disch := omega) only [WS, ↓reduceIte, Nat.reduceEqDiff, reduceCtorEq, AS, decide_eq_false (show ¬ (hs.length : Int) ≠ k from fun e => e h1), decide_eq_false h2, h.Xix0 h0, h.Xld h0, cell_hd, X_lenS, decide_eq_false h3', decide_eq_true h4.1, X_rem, hn2, em, decide_eq_true h4']
    exact ⟨Like.refl _, false, rfl, (fun e => by cases e), fun e => by have := e.2.2.2.1 h4.1; omega⟩
  have fin : ∀ (t : T), t 2 = s → t 37 = .int .i64 (hs.length : Int) → t 36 = s → t 38 = .int .i64 0 → True := fun _ _ _ _ _ => trivial
  by_cases h5 : f = 2
  · have h4' : ¬ ((hs[0].n % 2 : Nat) : Int) = 1 := by omega
    simp (maxSteps := 1000000) (disch := omega) only [WS, ↓reduceIte, Nat.reduceEqDiff, reduceCtorEq, AS, decide_eq_false (show ¬ (hs.length : Int) ≠ k from fun e => e h1), decide_eq_false h2, h.Xix0 h0, h.Xld h0, cell_hd, X_lenS, decide_eq_false h3', decide_eq_true h5, X_rem, hn2, em, decide_eq_false h4', h.Xlen]
    refine loop_of (fun t w' => t 2 = s ∧ t 36 = s ∧ t 37 = .int .i64 (hs.length : Int) ∧ w' = w ∧ ∃ i : Nat, t 38 = .int .i64 (i : Int) ∧ i ≤ hs.length ∧ ∀ j, j < i → hln hs j = hln hs 0) (fun t _ => hs.length - (toI (t 38)).toNat) ⟨by simp only [WS, ↓reduceIte, Nat.reduceEqDiff, reduceCtorEq], by simp only [WS, ↓reduceIte, Nat.reduceEqDiff, reduceCtorEq], by simp only [WS, ↓reduceIte, Nat.reduceEqDiff, reduceCtorEq], rfl, 0, by simp only [WS, ↓reduceIte, Nat.reduceEqDiff, reduceCtorEq]; rfl, by omega, fun j hj => absurd hj (Nat.not_lt_zero _)⟩ ?_
    rintro t w1 ⟨t2, t36, t37, rfl, i, t38, hi, hR⟩
    by_cases hil : i < hs.length
    · have hx := hln_get hs hil
      by_cases he : hs[i].n = hs[0].n
      · simp (maxSteps := 1000000) (disch := omega) only [WS, ↓reduceIte, Nat.reduceEqDiff, reduceCtorEq, AS, t2, t36, t37, t38, h.Xix hil, h.Xld hil, h.Xix0 h0, h.Xld h0, cell_hd, X_lenS, he, ne_eq, not_true_eq_false, decide_false]
        refine ⟨⟨i + 1, rfl, by omega, fun j hj => ?_⟩, by omega⟩
        by_cases e : j = i
        · rw [e, hx, hx0]; exact he
        · exact hR j (by omega)
      · have he' : ((hs[i].n : Nat) : Int) ≠ ((hs[0].n : Nat) : Int) := by omega
        simp (maxSteps := 1000000) (disch := omega) only [WS, ↓reduceIte, Nat.reduceEqDiff, reduceCtorEq, AS, t2, t36, t37, t38, h.Xix hil, h.Xld hil, h.Xix0 h0, h.Xld h0, cell_hd, X_lenS, decide_eq_true he']
        exact ⟨Like.refl _, false, rfl, (fun e => by cases e), fun e => by have := e.2.2.2.2 i hil; omega⟩
    · simp (maxSteps := 1000000) (disch := omega) only [WS, ↓reduceIte, Nat.reduceEqDiff, reduceCtorEq, AS, t2, t36, t37, t38]
      exact ⟨Like.refl _, true, rfl, fun _ => ⟨h1, by omega, by omega, fun _ => by omega, fun j hj => hR j (by omega)⟩, fun _ => rfl⟩
  · simp (maxSteps := 1000000) (disch := omega) only [WS, ↓reduceIte, Nat.reduceEqDiff, reduceCtorEq, AS, decide_eq_false (show ¬ (hs.length : Int) ≠ k from fun e => e h1), decide_eq_false h2, h.Xix0 h0, h.Xld h0, cell_hd, X_lenS, decide_eq_false h3', decide_eq_false h5, h.Xlen]
    refine loop_of (fun t w' => t 2 = s ∧ t 36 = s ∧ t 37 = .int .i64 (hs.length : Int) ∧ w' = w ∧ ∃ i : Nat, t 38 = .int .i64 (i : Int) ∧ i ≤ hs.length ∧ ∀ j, j < i → hln hs j = hln hs 0) (fun t _ => hs.length - (toI (t 38)).toNat) ⟨by simp only [WS, ↓reduceIte, Nat.reduceEqDiff, reduceCtorEq], by simp only [WS, ↓reduceIte, Nat.reduceEqDiff, reduceCtorEq], by simp only [WS, ↓reduceIte, Nat.reduceEqDiff, reduceCtorEq], rfl, 0, by simp only [WS, ↓reduceIte, Nat.reduceEqDiff, reduceCtorEq]; rfl, by omega, fun j hj => absurd hj (Nat.not_lt_zero _)⟩ ?_
    rintro t w1 ⟨t2, t36, t37, rfl, i, t38, hi, hR⟩
    by_cases hil : i < hs.length
    · have hx := hln_get hs hil
      by_cases he : hs[i].n = hs[0].n
      · simp (maxSteps := 1000000) (disch := omega) only [WS, ↓reduceIte, Nat.reduceEqDiff, reduceCtorEq, AS, t2, t36, t37, t38, h.Xix hil, h.Xld hil, h.Xix0 h0, h.Xld h0, cell_hd, X_lenS, he, ne_eq, not_true_eq_false, decide_false]
        refine ⟨⟨i + 1, rfl, by omega, fun j hj => ?_⟩, by omega⟩
        by_cases e : j = i
        · rw [e, hx, hx0]; exact he
        · exact hR j (by omega)
      · have he' : ((hs[i].n : Nat) : Int) ≠ ((hs[0].n : Nat) : Int) := by omega
        simp (maxSteps := 1000000) (disch := omega) only [WS, ↓reduceIte, Nat.reduceEqDiff, reduceCtorEq, AS, t2, t36, t37, t38, h.Xix hil, h.Xld hil, h.Xix0 h0, h.Xld h0, cell_hd, X_lenS, decide_eq_true he']
        exact ⟨Like.refl _, false, rfl, (fun e => by cases e), fun e => by have := e.2.2.2.2 i hil; omega⟩
    · simp (maxSteps := 1000000) (disch := omega) only [WS, ↓reduceIte, Nat.reduceEqDiff, reduceCtorEq, AS, t2, t36, t37, t38]
      exact ⟨Like.refl _, true, rfl, fun _ => ⟨h1, by omega, by omega, fun e => absurd e h5, fun j hj => hR j (by omega)⟩, fun _ => rfl⟩
end Go.Proofs.Ytbaljbadlfopgaa.Fw

set_option linter.unusedVariables false
set_option linter.unusedSimpArgs false
set_option maxRecDepth 100000
set_option maxHeartbeats 1000000
namespace Go.Proofs.Ytbaljbadlfopgaa.Fw
open Go Go.Fw Go.Proofs
attribute [local irreducible] stepI
def c_cullettop_rows8 : C := .seq (.ops [⟨0,some 6,none,.mov (.c (.slice none 0 0)),[]⟩]) (.seq (.ops [⟨0,some 7,none,.mov (.c (.slice none 0 0)),[]⟩]) (.seq (.seq (.ops [⟨0,some 8,none,.mov (.c (.int .i64 0)),[]⟩]) (.block 0 (.loop (.seq (.seq (.ops [⟨0,some 19,none,.mov (.t 8),[]⟩,⟨1,some 20,none,.mov (.t 1),[]⟩,⟨2,some 21,none,.bin .lss (.t 19) (.t 20),[]⟩]) (.ite (.t 21) .skip (.exit 0))) (.seq (.block 1 (.seq (.ops [⟨0,some 9,none,.mov (.c (.int .u8 1)),[]⟩]) (.seq (.seq (.ops [⟨0,some 10,none,.mov (.c (.int .i64 0)),[]⟩]) (.block 2 (.loop (.seq (.seq (.ops [⟨0,some 24,none,.mov (.t 10),[]⟩,⟨1,some 25,none,.mov (.t 1),[]⟩,⟨2,some 26,none,.bin .lss (.t 24) (.t 25),[]⟩]) (.ite (.t 26) .skip (.exit 2))) (.seq (.block 3 (.seq (.ops [⟨0,some 29,none,.mov (.t 10),[]⟩,⟨1,some 30,none,.mov (.t 8),[]⟩,⟨2,some 31,none,.bin .neq (.t 29) (.t 30),[]⟩]) (.ite (.t 31) (.ops [⟨0,some 32,none,.mov (.t 9),[]⟩,⟨1,some 33,none,.mov (.t 8),[]⟩,⟨2,some 34,none,.cnv .u8 (.t 33),[]⟩,⟨3,some 35,none,.mov (.t 10),[]⟩,⟨4,some 36,none,.cnv .u8 (.t 35),[]⟩,⟨5,some 37,none,.bin .xor (.t 34) (.t 36),[]⟩,⟨6,some 38,none,.call (.c (.func (.func 149) #[] #[])) [.t 32,.t 37],[]⟩,⟨7,some 9,none,.mov (.t 38),[]⟩]) .skip))) (.ops [⟨0,some 27,none,.mov (.t 10),[]⟩,⟨1,some 28,none,.bin .add (.t 27) (.c (.int .i64 1)),[]⟩,⟨2,some 10,none,.mov (.t 28),[]⟩])))))) (.ops [⟨0,some 39,none,.mov (.t 7),[]⟩,⟨1,some 40,none,.mov (.t 9),[]⟩,⟨2,some 41,none,.call (.c (.func (.func 157) #[] #[])) [.t 40],[]⟩,⟨3,some 42,none,.bsl 5 1 [.int .u8 0] [(0,(1,.t 41))],[]⟩,⟨4,some 43,none,.app 5 1 [.int .u8 0] (.t 39) (.t 42),[]⟩,⟨5,some 7,none,.mov (.t 43),[]⟩])))) (.ops [⟨0,some 22,none,.mov (.t 8),[]⟩,⟨1,some 23,none,.bin .add (.t 22) (.c (.int .i64 1)),[]⟩,⟨2,some 8,none,.mov (.t 23),[]⟩])))))) (.seq (.ops [⟨0,some 11,none,.mov (.c (.slice none 0 0)),[]⟩]) (.seq (.seq (.ops [⟨0,some 12,none,.mov (.c (.int .i64 0)),[]⟩]) (.block 4 (.loop (.seq (.seq (.ops [⟨0,some 44,none,.mov (.t 12),[]⟩,⟨1,some 45,none,.mov (.t 2),[]⟩,⟨2,some 46,none,.bin .lss (.t 44) (.t 45),[]⟩]) (.ite (.t 46) .skip (.exit 4))) (.seq (.block 5 (.seq (.ops [⟨0,some 49,none,.mov (.t 1),[]⟩,⟨1,some 50,none,.mov (.t 12),[]⟩,⟨2,some 51,none,.bin .add (.t 49) (.t 50),[]⟩,⟨3,some 52,none,.cnv .u8 (.t 51),[]⟩,⟨4,some 13,none,.mov (.t 52),[]⟩]) (.seq (.ops [⟨0,some 14,none,.mov (.c (.int .u8 1)),[]⟩]) (.seq (.seq (.ops [⟨0,some 15,none,.mov (.c (.int .i64 0)),[]⟩]) (.block 6 (.loop (.seq (.seq (.ops [⟨0,some 53,none,.mov (.t 15),[]⟩,⟨1,some 54,none,.mov (.t 1),[]⟩,⟨2,some 55,none,.bin .lss (.t 53) (.t 54),[]⟩]) (.ite (.t 55) .skip (.exit 6))) (.seq (.block 7 (.ops [⟨0,some 58,none,.mov (.t 14),[]⟩,⟨1,some 59,none,.mov (.t 13),[]⟩,⟨2,some 60,none,.mov (.t 15),[]⟩,⟨3,some 61,none,.cnv .u8 (.t 60),[]⟩,⟨4,some 62,none,.bin .xor (.t 59) (.t 61),[]⟩,⟨5,some 63,none,.call (.c (.func (.func 149) #[] #[])) [.t 58,.t 62],[]⟩,⟨6,some 14,none,.mov (.t 63),[]⟩])) (.ops [⟨0,some 56,none,.mov (.t 15),[]⟩,⟨1,some 57,none,.bin .add (.t 56) (.c (.int .i64 1)),[]⟩,⟨2,some 15,none,.mov (.t 57),[]⟩])))))) (.seq (.ops [⟨0,some 16,none,.mov (.c (.slice none 0 0)),[]⟩]) (.seq (.seq (.ops [⟨0,some 17,none,.mov (.c (.int .i64 0)),[]⟩]) (.block 8 (.loop (.seq (.seq (.ops [⟨0,some 64,none,.mov (.t 17),[]⟩,⟨1,some 65,none,.mov (.t 1),[]⟩,⟨2,some 66,none,.bin .lss (.t 64) (.t 65),[]⟩]) (.ite (.t 66) .skip (.exit 8))) (.seq (.block 9 (.seq (.ops [⟨0,some 69,none,.mov (.t 13),[]⟩,⟨1,some 70,none,.mov (.t 17),[]⟩,⟨2,some 71,none,.cnv .u8 (.t 70),[]⟩,⟨3,some 72,none,.bin .xor (.t 69) (.t 71),[]⟩,⟨4,some 73,none,.call (.c (.func (.func 157) #[] #[])) [.t 72],[]⟩,⟨5,some 18,none,.mov (.t 73),[]⟩]) (.seq (.seq (.ops [⟨0,some 74,none,.mov (.t 0),[]⟩,⟨1,some 75,none,.bin .eql (.t 74) (.c (.int .i64 0)),[]⟩]) (.ite (.t 75) (.ops [⟨0,some 76,none,.mov (.t 18),[]⟩,⟨1,some 77,none,.mov (.t 14),[]⟩,⟨2,some 78,none,.mov (.t 7),[]⟩,⟨3,some 79,none,.mov (.t 17),[]⟩,⟨4,some 80,none,.ixs 1 (.t 78) (.t 79),[]⟩,⟨5,some 81,none,.ld (.t 80),[]⟩,⟨6,some 82,none,.call (.c (.func (.func 149) #[] #[])) [.t 77,.t 81],[]⟩,⟨7,some 83,none,.call (.c (.func (.func 149) #[] #[])) [.t 76,.t 82],[]⟩,⟨8,some 18,none,.mov (.t 83),[]⟩]) .skip)) (.ops [⟨0,some 84,none,.mov (.t 16),[]⟩,⟨1,some 85,none,.mov (.t 18),[]⟩,⟨2,some 86,none,.bsl 5 1 [.int .u8 0] [(0,(1,.t 85))],[]⟩,⟨3,some 87,none,.app 5 1 [.int .u8 0] (.t 84) (.t 86),[]⟩,⟨4,some 16,none,.mov (.t 87),[]⟩])))) (.ops [⟨0,some 67,none,.mov (.t 17),[]⟩,⟨1,some 68,none,.bin .add (.t 67) (.c (.int .i64 1)),[]⟩,⟨2,some 17,none,.mov (.t 68),[]⟩])))))) (.ops [⟨0,some 88,none,.mov (.t 11),[]⟩,⟨1,some 89,none,.mov (.t 16),[]⟩,⟨2,some 90,none,.bsl 25 1 [.slice none 0 0] [(0,(1,.t 89))],[]⟩,⟨3,some 91,none,.app 25 24 [.slice none 0 0] (.t 88) (.t 90),[]⟩,⟨4,some 11,none,.mov (.t 91),[]⟩]))))))) (.ops [⟨0,some 47,none,.mov (.t 12),[]⟩,⟨1,some 48,none,.bin .add (.t 47) (.c (.int .i64 1)),[]⟩,⟨2,some 12,none,.mov (.t 48),[]⟩])))))) (.seq (.ops [⟨0,some 92,none,.mov (.t 11),[]⟩,⟨1,some 6,none,.mov (.t 92),[]⟩]) .ret)))))
attribute [irreducible] c_cullettop_rows8
theorem run_cullettop_rows8 {args : List Value} {w : World} {K : Value → World → Prop} (hn : args.length ≤ 93) (h : WP Try.prog c_cullettop_rows8 (endQ [.t 6] K) (initT args) w) : CallV Try.prog 148 args w K :=
  call_of follows Try.func148 (by kernel_rfl) (by kernel_rfl) hn h
end Go.Proofs.Ytbaljbadlfopgaa.Fw
namespace Go.Proofs.Ytbaljbadlfopgaa.Fw
open Go Go.Fw
theorem u8_en {i : Nat} (h : i < 256) : IntKind.u8.wrap (i : Int) = ((en8 i).v.toNat : Int) := by rw [wrap_u8 _ (by omega), en8_v (by omega)]
/-- The factor of data shard l in parity shard j. -/
def rwf (f : Int) (K j l : Nat) : El 8 := if f = 0 then (en8 (K + j) + en8 l).inv * (wpr (K + j) K * (wpr l K).inv) else (en8 (K + j) + en8 l).inv
def rwL (f : Int) (K j : Nat) : List (El 8) := (List.range K).map (rwf f K j)
theorem rwL_len (f : Int) (K j : Nat) : (rwL f K j).length = K := by unfold rwL; rw [List.length_map, List.length_range]
theorem rwL_get {f : Int} {K j i : Nat} (h : i < (rwL f K j).length) : (rwL f K j)[i] = rwf f K j i := (List.getElem_map ..).trans (by rw [List.getElem_range])
theorem rwf_ctm {f : Int} (hf : f = 0 ∨ f = 1) {K j l : Nat} (hK : K + j < 256) (hl : l < K) (c : El 8) : rwf f K j l * c = ctm f K (K + j) c l := by
  rcases hf with rfl | rfl
  · unfold rwf ctm
    rw [if_pos rfl, if_pos rfl, vtm_eq c (by omega) K (by omega), wpr_out K hl (by omega), wpr_ppr l K]
    ac_rfl
  · unfold rwf ctm
    rw [if_neg (by decide), if_neg (by decide), El.mul_comm]
/-- Whatever the data, there is a polynomial. -/
theorem val_ex {f : Int} {K : Nat} (hf : f = 0 ∨ f = 1) (hK : K ≤ 256) (D : Nat → El 8) : ∃ g, tr g = g ∧ g.length ≤ K ∧ ∀ l, l < K → valS f K g l = D l := by
  obtain ⟨Y, hY⟩ : ∃ Y : Nat → El 8, Y = fun l => D l * wt f K l := ⟨_, rfl⟩
  have hd : Dg (nw en8 Y 0 K) K := nw_dg en8 Y 0 K
  have hgl : (tr (ofc K (nw en8 Y 0 K))).length ≤ K := by
    rw [tr_len]; have := tln_le (ofc K (nw en8 Y 0 K)); rwa [ofc_len] at this
  have hgv : ∀ l, l < K → evl (tr (ofc K (nw en8 Y 0 K))) (en8 l) = Y l := fun l hl => by
    have := nw_ev en8 Y K (en8_dist (by omega)) K 0 (by omega) l hl
    rw [Nat.zero_add] at this
    rw [evl_eq _ (tr_co _), evl_co, ofc_len, ofc_co hd]
    exact this
  refine ⟨tr (ofc K (nw en8 Y 0 K)), tr_tr _, hgl, fun l hl => ?_⟩
  unfold valS
  rw [hgv l hl, hY, El.mul_assoc, El.mul_inv _ (wt_ne (by omega) hK), El.mul_one]
/-- The parity's bytes by the factors. -/
def parF (f : Int) (K j : Nat) (D : Nat → El 8) : El 8 := gsum K fun l => rwf f K j l * D l
theorem parF_val {f : Int} (hf : f = 0 ∨ f = 1) {K j : Nat} (hK : K + j < 256) {g : List (El 8)} (hg : g.length ≤ K) {D : Nat → El 8} (hD : ∀ l, l < K → D l = valS f K g l) : parF f K j D = valS f K g (K + j) := by
  rw [← isCol_val (n := 256) hf (by omega) (by omega) hg (K + j) (by omega) (by omega)]
  unfold parF
  exact gsum_congr fun l hl => by rw [rwf_ctm hf hK hl, hD l hl]
def parL (f : Int) (K len j : Nat) (D : Nat → List (El 8)) : List (El 8) := (List.range len).map fun t => parF f K j fun l => nth (D l) t
theorem parL_len (f : Int) (K len j : Nat) (D : Nat → List (El 8)) : (parL f K len j D).length = len := by unfold parL; rw [List.length_map, List.length_range]
theorem parL_get {f : Int} {K len j t : Nat} {D : Nat → List (El 8)} (h : t < (parL f K len j D).length) : (parL f K len j D)[t] = parF f K j fun l => nth (D l) t := (List.getElem_map ..).trans (by rw [List.getElem_range])
set_option maxHeartbeats 8000000 in
theorem cullettop_rows8_spec (w : World) (f : Int) (K M : Nat) (hf : f = 0 ∨ f = 1) (hK : 1 ≤ K) (hKM : K + M ≤ 256) :
    CallV Try.prog 148 [.int .i64 f, .int .i64 (K : Int), .int .i64 (M : Int)] w fun v w' => RowKit.Below w.heap.size w w' ∧ ∃ hs' : List Hd, hs'.length = M ∧ ShT w.heap.size v hs' (rwL f K) w' := by
  have one8 : Value.int .u8 1 = .int .u8 ((1 : El 8).v.toNat : Int) := rfl
  refine run_cullettop_rows8 (by simp) ?_
  simp only [c_cullettop_rows8, WS, ↓reduceIte, Nat.reduceEqDiff, reduceCtorEq]
  refine loop_of (fun t w' => t 0 = .int .i64 f ∧ t 1 = .int .i64 (K : Int) ∧ t 2 = .int .i64 (M : Int) ∧ RowKit.Below w.heap.size w w' ∧ ∃ (i : Nat) (su : Value), t 8 = .int .i64 (i : Int) ∧ i ≤ K ∧ t 7 = su ∧ Ow w.heap.size w' su ((List.range i).map fun l => (wpr l K).inv)) (fun t _ => K - (toI (t 8)).toNat)
    ⟨by simp only [WS, ↓reduceIte, Nat.reduceEqDiff, reduceCtorEq], by simp only [WS, ↓reduceIte, Nat.reduceEqDiff, reduceCtorEq], by simp only [WS, ↓reduceIte, Nat.reduceEqDiff, reduceCtorEq], RowKit.Below.refl _ _, 0, _, by simp only [WS, ↓reduceIte, Nat.reduceEqDiff, reduceCtorEq]; rfl, by omega, by simp only [WS, ↓reduceIte, Nat.reduceEqDiff, reduceCtorEq], Ow.nil _ _⟩ ?_
  rintro t w1 ⟨t0, t1, t2, B, i, su, t8, hi, t7, ou⟩
  by_cases hik : i < K
  · simp (maxSteps := 1000000) (disch := omega) only [WS, ↓reduceIte, Nat.reduceEqDiff, reduceCtorEq, AS, t0, t1, t2, t8, t7]
    refine loop_of (fun t w' => t 0 = .int .i64 f ∧ t 1 = .int .i64 (K : Int) ∧ t 2 = .int .i64 (M : Int) ∧ t 8 = .int .i64 (i : Int) ∧ t 7 = su ∧ w' = w1 ∧ ∃ l : Nat, t 10 = .int .i64 (l : Int) ∧ l ≤ K ∧ t 9 = .int .u8 ((wpr i l).v.toNat : Int)) (fun t _ => K - (toI (t 10)).toNat)
      ⟨by simp only [WS, ↓reduceIte, Nat.reduceEqDiff, reduceCtorEq]; exact t0, by simp only [WS, ↓reduceIte, Nat.reduceEqDiff, reduceCtorEq]; exact t1, by simp only [WS, ↓reduceIte, Nat.reduceEqDiff, reduceCtorEq]; exact t2, by simp only [WS, ↓reduceIte, Nat.reduceEqDiff, reduceCtorEq]; exact t8, by simp only [WS, ↓reduceIte, Nat.reduceEqDiff, reduceCtorEq]; exact t7, rfl, 0, by simp only [WS, ↓reduceIte, Nat.reduceEqDiff, reduceCtorEq]; rfl, by omega, by simp only [WS, ↓reduceIte, Nat.reduceEqDiff, reduceCtorEq]; rfl⟩ ?_
    clear t0 t1 t2 t8 t7
    rintro t w2 ⟨t0, t1, t2, t8, t7, rfl, l, t10, hl, t9⟩
    by_cases hlk : l < K
    · by_cases hli : l = i
      · have e1 : wpr i (l + 1) = wpr i l := by rw [hli]; show (if i = i then wpr i i else _) = _; rw [if_pos rfl]
        simp (maxSteps := 1000000) (disch := omega) only [WS, ↓reduceIte, Nat.reduceEqDiff, reduceCtorEq, AS, t0, t1, t2, t8, t7, t10, t9, decide_eq_false (show ¬ ((l : Int) ≠ (i : Int)) from fun e => e (by omega))]
        exact ⟨⟨l + 1, rfl, by omega, by rw [e1]⟩, by omega⟩
      · have e1 : wpr i (l + 1) = wpr i l * (en8 i + en8 l) := by show (if l = i then _ else _) = _; rw [if_neg hli]
        have u1 := u8_en (i := i) (by omega)
        have u2 := u8_en (i := l) (by omega)
        have d1 : ((l : Int) ≠ (i : Int)) := by omega
        simp (maxSteps := 1000000) (disch := omega) only [WS, ↓reduceIte, Nat.reduceEqDiff, reduceCtorEq, AS, t0, t1, t2, t8, t7, t10, t9, decide_eq_true d1, u1, u2, xor8]
        refine X_call0 ((cullettop_mul8_spec w2 (wpr i l) (en8 i + en8 l)).mono ?_)
        rintro _ w3 ⟨rfl, rfl⟩
        simp (maxSteps := 1000000) (disch := omega) only [WS, ↓reduceIte, Nat.reduceEqDiff, reduceCtorEq, AS, t0, t1, t2, t8, t7, t10, t9]
        exact ⟨⟨l + 1, rfl, by omega, by rw [e1]⟩, by omega⟩
    · have elk : l = K := by omega
      rw [elk] at t9
      simp (maxSteps := 1000000) (disch := omega) only [WS, ↓reduceIte, Nat.reduceEqDiff, reduceCtorEq, AS, t0, t1, t2, t8, t7, t10, t9]
      refine X_call0 ((cullettop_inv8_spec w2 (wpr i K)).mono ?_)
      rintro _ w3 ⟨rfl, rfl⟩
      simp (maxSteps := 1000000) (disch := omega) only [WS, ↓reduceIte, Nat.reduceEqDiff, reduceCtorEq, AS, t0, t1, t2, t8, t7, t10, t9]
      refine X_bsl (zs := [(wpr i K).inv]) (by rfl) (by rfl) fun e1 w4 oe hB => ?_
      have ou := ou.up hB
      have B := B.trans (hB.mono B.size)
      simp (maxSteps := 1000000) (disch := omega) only [WS, ↓reduceIte, Nat.reduceEqDiff, reduceCtorEq, AS, t0, t1, t2, t8, t7, t10]
      refine Ow.Xapp ou oe.sl B.size (by simp only [List.length_singleton, List.length_map, List.length_range, maxBytes]; omega) (by simp only [List.length_singleton, List.length_map, List.length_range]; omega) fun e2 w5 ou2 hg _ => ?_
      have B := Below.app B B.size hg fun b hb => (ou.blk b hb).1
      simp (maxSteps := 1000000) (disch := omega) only [WS, ↓reduceIte, Nat.reduceEqDiff, reduceCtorEq, AS, t0, t1, t2, t8, t7, t10]
      exact ⟨⟨B, i + 1, e2, rfl, by omega, rfl, by rw [List.range_succ, List.map_append]; exact ou2⟩, by omega⟩
  have eik : i = K := by omega
  rw [eik] at ou
  have lu : ((List.range K).map fun l => (wpr l K).inv).length = K := by rw [List.length_map, List.length_range]
  have hbu := ou.blk
  have zB := B.size
  simp (maxSteps := 1000000) (disch := omega) only [WS, ↓reduceIte, Nat.reduceEqDiff, reduceCtorEq, AS, t0, t1, t2, t8, t7]
  refine loop_of (fun t w' => t 0 = .int .i64 f ∧ t 1 = .int .i64 (K : Int) ∧ t 2 = .int .i64 (M : Int) ∧ t 7 = su ∧ RowKit.Below w1.heap.size w1 w' ∧ ∃ (j : Nat) (v : Value) (hs' : List Hd) (Rc : Nat → List (El 8)), t 12 = .int .i64 (j : Int) ∧ j ≤ M ∧ t 11 = v ∧ hs'.length = j ∧ (∀ i, i < j → Rc i = rwL f K i) ∧ ShT w1.heap.size v hs' Rc w') (fun t _ => M - (toI (t 12)).toNat)
    ⟨by simp only [WS, ↓reduceIte, Nat.reduceEqDiff, reduceCtorEq]; exact t0, by simp only [WS, ↓reduceIte, Nat.reduceEqDiff, reduceCtorEq]; exact t1, by simp only [WS, ↓reduceIte, Nat.reduceEqDiff, reduceCtorEq]; exact t2, by simp only [WS, ↓reduceIte, Nat.reduceEqDiff, reduceCtorEq]; exact t7, RowKit.Below.refl _ _, 0, _, [], fun _ => [], by simp only [WS, ↓reduceIte, Nat.reduceEqDiff, reduceCtorEq]; rfl, by omega, by simp only [WS, ↓reduceIte, Nat.reduceEqDiff, reduceCtorEq], rfl, fun i hi => absurd hi (Nat.not_lt_zero _), ShT.nil (Ow.nil _ _)⟩ ?_
  clear t0 t1 t2 t8 t7 hik hi eik i
  rintro t w2 ⟨t0, t1, t2, t7, C, j, v, hsA, Rc, t12, hj, t11, lhs, hRc, hS⟩
  have zC := C.size
  by_cases hjm : j < M
  rotate_left
  · simp (maxSteps := 1000000) (disch := omega) only [WS, ↓reduceIte, Nat.reduceEqDiff, reduceCtorEq, AS, t0, t1, t2, t7, t11, t12]
    exact ⟨B.trans (C.mono zB), hsA, by omega, (hS.mono zB).congr fun i hi => (hRc i (by omega)).symm⟩
  have ekj : IntKind.i64.wrap ((K : Int) + (j : Int)) = ((K + j : Nat) : Int) := by rw [wrap_id (by omega) (by omega)]; omega
  have e8 : IntKind.u8.wrap (((K + j : Nat) : Nat) : Int) = ((en8 (K + j)).v.toNat : Int) := u8_en (by omega)
  simp (maxSteps := 1000000) (disch := omega) only [WS, ↓reduceIte, Nat.reduceEqDiff, reduceCtorEq, AS, t0, t1, t2, t7, t11, t12, ekj, e8]
  refine loop_of (fun t w' => t 0 = .int .i64 f ∧ t 1 = .int .i64 (K : Int) ∧ t 2 = .int .i64 (M : Int) ∧ t 7 = su ∧ t 11 = v ∧ t 12 = .int .i64 (j : Int) ∧ t 13 = .int .u8 ((en8 (K + j)).v.toNat : Int) ∧ w' = w2 ∧ ∃ l : Nat, t 15 = .int .i64 (l : Int) ∧ l ≤ K ∧ t 14 = .int .u8 ((wpr (K + j) l).v.toNat : Int)) (fun t _ => K - (toI (t 15)).toNat)
    ⟨by simp only [WS, ↓reduceIte, Nat.reduceEqDiff, reduceCtorEq]; exact t0, by simp only [WS, ↓reduceIte, Nat.reduceEqDiff, reduceCtorEq]; exact t1, by simp only [WS, ↓reduceIte, Nat.reduceEqDiff, reduceCtorEq]; exact t2, by simp only [WS, ↓reduceIte, Nat.reduceEqDiff, reduceCtorEq]; exact t7, by simp only [WS, ↓reduceIte, Nat.reduceEqDiff, reduceCtorEq]; exact t11, by simp only [WS, ↓reduceIte, Nat.reduceEqDiff, reduceCtorEq]; exact t12, by simp only [WS, ↓reduceIte, Nat.reduceEqDiff, reduceCtorEq], rfl, 0, by simp only [WS, ↓reduceIte, Nat.reduceEqDiff, reduceCtorEq]; rfl, by omega, by simp only [WS, ↓reduceIte, Nat.reduceEqDiff, reduceCtorEq]; rfl⟩ ?_
  clear t0 t1 t2 t7 t11 t12
  rintro t w3 ⟨t0, t1, t2, t7, t11, t12, t13, rfl, l, t15, hl, t14⟩
  by_cases hlk : l < K
  · have e1 : wpr (K + j) (l + 1) = wpr (K + j) l * (en8 (K + j) + en8 l) := by show (if l = K + j then _ else _) = _; rw [if_neg (by omega)]
    have u2 := u8_en (i := l) (by omega)
    simp (maxSteps := 1000000) (disch := omega) only [WS, ↓reduceIte, Nat.reduceEqDiff, reduceCtorEq, AS, t0, t1, t2, t7, t11, t12, t13, t15, t14, u2, xor8]
    refine X_call0 ((cullettop_mul8_spec w3 (wpr (K + j) l) (en8 (K + j) + en8 l)).mono ?_)
    rintro _ w4 ⟨rfl, rfl⟩
    simp (maxSteps := 1000000) (disch := omega) only [WS, ↓reduceIte, Nat.reduceEqDiff, reduceCtorEq, AS, t0, t1, t2, t7, t11, t12, t13, t15, t14]
    exact ⟨⟨l + 1, rfl, by omega, by rw [e1]⟩, by omega⟩
  have elk : l = K := by omega
  rw [elk] at t14
  simp (maxSteps := 1000000) (disch := omega) only [WS, ↓reduceIte, Nat.reduceEqDiff, reduceCtorEq, AS, t0, t1, t2, t7, t11, t12, t13, t15, t14]
  refine loop_of (fun t w' => t 0 = .int .i64 f ∧ t 1 = .int .i64 (K : Int) ∧ t 2 = .int .i64 (M : Int) ∧ t 7 = su ∧ t 11 = v ∧ t 12 = .int .i64 (j : Int) ∧ t 13 = .int .u8 ((en8 (K + j)).v.toNat : Int) ∧ t 14 = .int .u8 ((wpr (K + j) K).v.toNat : Int) ∧ RowKit.Below w3.heap.size w3 w' ∧ ∃ (l : Nat) (sr : Value), t 17 = .int .i64 (l : Int) ∧ l ≤ K ∧ t 16 = sr ∧ Ow w3.heap.size w' sr ((List.range l).map (rwf f K j))) (fun t _ => K - (toI (t 17)).toNat)
    ⟨by simp only [WS, ↓reduceIte, Nat.reduceEqDiff, reduceCtorEq]; exact t0, by simp only [WS, ↓reduceIte, Nat.reduceEqDiff, reduceCtorEq]; exact t1, by simp only [WS, ↓reduceIte, Nat.reduceEqDiff, reduceCtorEq]; exact t2, by simp only [WS, ↓reduceIte, Nat.reduceEqDiff, reduceCtorEq]; exact t7, by simp only [WS, ↓reduceIte, Nat.reduceEqDiff, reduceCtorEq]; exact t11, by simp only [WS, ↓reduceIte, Nat.reduceEqDiff, reduceCtorEq]; exact t12, by simp only [WS, ↓reduceIte, Nat.reduceEqDiff, reduceCtorEq]; exact t13, by simp only [WS, ↓reduceIte, Nat.reduceEqDiff, reduceCtorEq]; exact t14, RowKit.Below.refl _ _, 0, _, by simp only [WS, ↓reduceIte, Nat.reduceEqDiff, reduceCtorEq]; rfl, by omega, by simp only [WS, ↓reduceIte, Nat.reduceEqDiff, reduceCtorEq], Ow.nil _ _⟩ ?_
  clear t0 t1 t2 t7 t11 t12 t13 t15 t14 hl hlk elk l
  rintro t w4 ⟨t0, t1, t2, t7, t11, t12, t13, t14, D, l, sr, t17, hl, t16, or⟩
  have zD := D.size
  by_cases hlk : l < K
  rotate_left
  · have elk : l = K := by omega
    rw [elk] at or
    have hcv : Cell.v (hd sr) = sr := or.sl.hd.1
    simp (maxSteps := 1000000) (disch := omega) only [WS, ↓reduceIte, Nat.reduceEqDiff, reduceCtorEq, AS, t0, t1, t2, t7, t11, t12, t13, t14, t16, t17]
    rw [← hcv]
    refine X_bsl (zs := [hd sr]) (by rfl) (by rfl) fun e1 w5 oe hB5 => ?_
    have C5 := C.trans ((D.trans (hB5.mono D.size)).mono C.size)
    have z5 := hB5.size
    have ot := (hS.top.up D).up hB5
    simp (maxSteps := 1000000) (disch := omega) only [WS, ↓reduceIte, Nat.reduceEqDiff, reduceCtorEq, AS, t0, t1, t2, t7, t11, t12, t13, t14, t16, t17]
    refine Ow.Xapp2 ot oe.sl (by omega) (by simp only [List.length_singleton, maxBytes]; omega) (by simp only [List.length_singleton]; omega) fun v' w6 ov' hg => ?_
    have hS6 := hS.push zC D or hB5 hg ov'
    have C6 := hg.below C5 (by omega) fun b hb => (ot.blk b hb).1
    simp (maxSteps := 1000000) (disch := omega) only [WS, ↓reduceIte, Nat.reduceEqDiff, reduceCtorEq, AS, t0, t1, t2, t7, t11, t12, t13, t14, t16, t17]
    refine ⟨⟨C6, j + 1, v', _, _, rfl, by omega, rfl, by rw [List.length_append, lhs]; rfl, fun i hi => ?_, hS6⟩, by omega⟩
    by_cases e : i = j
    · rw [if_pos (by omega), e]; rfl
    · rw [if_neg (by omega)]; exact hRc i (by omega)
  have u2 := u8_en (i := l) (by omega)
  have ou4 := (ou.up C).up D
  have iu : l < ((List.range K).map fun l => (wpr l K).inv).length := by omega
  have eu : ((List.range K).map fun l => (wpr l K).inv)[l] = (wpr l K).inv := by rw [List.getElem_map, List.getElem_range]
  simp (maxSteps := 1000000) (disch := omega) only [WS, ↓reduceIte, Nat.reduceEqDiff, reduceCtorEq, AS, t0, t1, t2, t7, t11, t12, t13, t14, t16, t17, u2, xor8]
  refine X_call0 ((cullettop_inv8_spec w4 (en8 (K + j) + en8 l)).mono ?_)
  rintro _ w5 ⟨rfl, rfl⟩
  by_cases hf0 : f = 0
  · simp (maxSteps := 1000000) (disch := omega) only [WS, ↓reduceIte, Nat.reduceEqDiff, reduceCtorEq, AS, t0, t1, t2, t7, t11, t12, t13, t14, t16, t17, decide_eq_true hf0, ou4.sl.Xix iu, ou4.sl.Xld iu, cell_e8, eu]
    refine X_call0 ((cullettop_mul8_spec w5 (wpr (K + j) K) (wpr l K).inv).mono ?_)
    rintro _ w6 ⟨rfl, rfl⟩
    simp (maxSteps := 1000000) (disch := omega) only [WS, ↓reduceIte, Nat.reduceEqDiff, reduceCtorEq, AS, t0, t1, t2, t7, t11, t12, t13, t14, t16, t17]
    refine X_call0 ((cullettop_mul8_spec w6 (en8 (K + j) + en8 l).inv (wpr (K + j) K * (wpr l K).inv)).mono ?_)
    rintro _ w7 ⟨rfl, rfl⟩
    simp (maxSteps := 1000000) (disch := omega) only [WS, ↓reduceIte, Nat.reduceEqDiff, reduceCtorEq, AS, t0, t1, t2, t7, t11, t12, t13, t14, t16, t17]
    have er : rwf f K j l = (en8 (K + j) + en8 l).inv * (wpr (K + j) K * (wpr l K).inv) := by unfold rwf; rw [if_pos hf0]
    refine X_bsl (zs := [(en8 (K + j) + en8 l).inv * (wpr (K + j) K * (wpr l K).inv)]) (by rfl) (by rfl) fun e1 w8 oe hB => ?_
    have or := or.up hB
    have D := D.trans (hB.mono D.size)
    simp (maxSteps := 1000000) (disch := omega) only [WS, ↓reduceIte, Nat.reduceEqDiff, reduceCtorEq, AS, t0, t1, t2, t7, t11, t12, t13, t14, t16, t17]
    refine Ow.Xapp or oe.sl D.size (by simp only [List.length_singleton, List.length_map, List.length_range, maxBytes]; omega) (by simp only [List.length_singleton, List.length_map, List.length_range]; omega) fun e2 w9 or2 hg _ => ?_
    have D := Below.app D D.size hg fun b hb => (or.blk b hb).1
    simp (maxSteps := 1000000) (disch := omega) only [WS, ↓reduceIte, Nat.reduceEqDiff, reduceCtorEq, AS, t0, t1, t2, t7, t11, t12, t13, t14, t16, t17]
    exact ⟨⟨D, l + 1, e2, rfl, by omega, rfl, by rw [List.range_succ, List.map_append]; rw [← er] at or2; exact or2⟩, by omega⟩
  · simp (maxSteps := 1000000) (disch := omega) only [WS, ↓reduceIte, Nat.reduceEqDiff, reduceCtorEq, AS, t0, t1, t2, t7, t11, t12, t13, t14, t16, t17, decide_eq_false hf0]
    have er : rwf f K j l = (en8 (K + j) + en8 l).inv := by unfold rwf; rw [if_neg hf0]
    refine X_bsl (zs := [(en8 (K + j) + en8 l).inv]) (by rfl) (by rfl) fun e1 w8 oe hB => ?_
    have or := or.up hB
    have D := D.trans (hB.mono D.size)
    simp (maxSteps := 1000000) (disch := omega) only [WS, ↓reduceIte, Nat.reduceEqDiff, reduceCtorEq, AS, t0, t1, t2, t7, t11, t12, t13, t14, t16, t17]
    refine Ow.Xapp or oe.sl D.size (by simp only [List.length_singleton, List.length_map, List.length_range, maxBytes]; omega) (by simp only [List.length_singleton, List.length_map, List.length_range]; omega) fun e2 w9 or2 hg _ => ?_
    have D := Below.app D D.size hg fun b hb => (or.blk b hb).1
    simp (maxSteps := 1000000) (disch := omega) only [WS, ↓reduceIte, Nat.reduceEqDiff, reduceCtorEq, AS, t0, t1, t2, t7, t11, t12, t13, t14, t16, t17]
    exact ⟨⟨D, l + 1, e2, rfl, by omega, rfl, by rw [List.range_succ, List.map_append]; rw [← er] at or2; exact or2⟩, by omega⟩
end Go.Proofs.Ytbaljbadlfopgaa.Fw

set_option linter.unusedVariables false
set_option linter.unusedSimpArgs false
set_option maxRecDepth 100000
set_option maxHeartbeats 1000000
namespace Go.Proofs.Ytbaljbadlfopgaa.Fw
open Go Go.Fw Go.Proofs
attribute [local irreducible] stepI
def c_cullettop_word : C := .seq (.ops [⟨0,some 8,none,.mov (.c (.slice none 0 0)),[]⟩]) (.seq (.ops [⟨0,some 9,none,.mov (.t 3),[]⟩,⟨1,some 10,none,.call (.c (.func (.func 48) #[] #[])) [.t 9],[]⟩,⟨2,some 11,none,.mov (.t 0),[]⟩,⟨3,some 12,none,.mov (.t 1),[]⟩,⟨4,some 13,none,.mov (.t 2),[]⟩,⟨5,some 14,none,.mov (.t 3),[]⟩,⟨6,some 15,none,.call (.c (.func (.func 78) #[] #[])) [.t 11,.t 12,.t 13,.t 14],[]⟩,⟨7,some 16,none,.app 25 24 [.slice none 0 0] (.t 10) (.t 15),[]⟩,⟨8,some 8,none,.mov (.t 16),[]⟩]) .ret)
attribute [irreducible] c_cullettop_word
theorem run_cullettop_word {args : List Value} {w : World} {K : Value → World → Prop} (hn : args.length ≤ 17) (h : WP Try.prog c_cullettop_word (endQ [.t 8] K) (initT args) w) : CallV Try.prog 47 args w K :=
  call_of follows Try.func47 (by kernel_rfl) (by kernel_rfl) hn h
def c_cullettop_parity : C := .seq (.ops [⟨0,some 8,none,.mov (.c (.slice none 0 0)),[]⟩]) (.seq (.seq (.ops [⟨0,some 9,none,.mov (.t 0),[]⟩,⟨1,some 10,none,.bin .eql (.t 9) (.c (.int .i64 2)),[]⟩]) (.ite (.t 10) (.seq (.ops [⟨0,some 11,none,.mov (.t 1),[]⟩,⟨1,some 12,none,.mov (.t 2),[]⟩,⟨2,some 13,none,.mov (.t 3),[]⟩,⟨3,some 14,none,.call (.c (.func (.func 115) #[] #[])) [.t 11,.t 12,.t 13],[]⟩,⟨4,some 8,none,.mov (.t 14),[]⟩]) .ret) .skip)) (.seq (.ops [⟨0,some 15,none,.mov (.t 0),[]⟩,⟨1,some 16,none,.mov (.t 1),[]⟩,⟨2,some 17,none,.mov (.t 2),[]⟩,⟨3,some 18,none,.mov (.t 3),[]⟩,⟨4,some 19,none,.call (.c (.func (.func 116) #[] #[])) [.t 15,.t 16,.t 17,.t 18],[]⟩,⟨5,some 8,none,.mov (.t 19),[]⟩]) .ret))
attribute [irreducible] c_cullettop_parity
theorem run_cullettop_parity {args : List Value} {w : World} {K : Value → World → Prop} (hn : args.length ≤ 20) (h : WP Try.prog c_cullettop_parity (endQ [.t 8] K) (initT args) w) : CallV Try.prog 78 args w K :=
  call_of follows Try.func78 (by kernel_rfl) (by kernel_rfl) hn h
def c_cullettop_parity8 : C := .seq (.ops [⟨0,some 8,none,.mov (.c (.slice none 0 0)),[]⟩]) (.seq (.ops [⟨0,some 9,none,.mov (.c (.slice none 0 0)),[]⟩]) (.seq (.seq (.ops [⟨0,some 17,none,.mov (.t 0),[]⟩,⟨1,some 18,none,.mov (.t 1),[]⟩,⟨2,some 19,none,.mov (.t 2),[]⟩,⟨3,some 20,none,.call (.c (.func (.func 148) #[] #[])) [.t 17,.t 18,.t 19],[]⟩,⟨4,some 21,none,.len (.t 20),[]⟩,⟨5,some 22,none,.mov (.c (.int .i64 0)),[]⟩]) (.block 0 (.loop (.seq (.ops [⟨0,some 23,none,.bin .lss (.t 22) (.t 21),[]⟩]) (.seq (.ite (.t 23) .skip (.exit 0)) (.seq (.block 1 (.seq (.ops [⟨0,some 24,none,.ixs 1 (.t 20) (.t 22),[]⟩,⟨1,some 25,none,.ld (.t 24),[]⟩,⟨2,some 11,none,.mov (.t 25),[]⟩]) (.seq (.ops [⟨0,some 26,none,.mov (.t 3),[]⟩,⟨1,some 27,none,.ixs 1 (.t 26) (.c (.int .i64 0)),[]⟩,⟨2,some 28,none,.ld (.t 27),[]⟩,⟨3,some 29,none,.len (.t 28),[]⟩,⟨4,some 30,none,.mks 5 1 [.int .u8 0] (.t 29) (.t 29),[]⟩,⟨5,some 12,none,.mov (.t 30),[]⟩]) (.seq (.seq (.ops [⟨0,some 31,none,.mov (.t 11),[]⟩,⟨1,some 32,none,.len (.t 31),[]⟩,⟨2,some 33,none,.mov (.c (.int .i64 0)),[]⟩]) (.block 2 (.loop (.seq (.ops [⟨0,some 34,none,.bin .lss (.t 33) (.t 32),[]⟩]) (.seq (.ite (.t 34) .skip (.exit 2)) (.seq (.block 3 (.seq (.ops [⟨0,some 35,none,.mov (.t 33),[]⟩,⟨1,some 36,none,.ixs 1 (.t 31) (.t 33),[]⟩,⟨2,some 37,none,.ld (.t 36),[]⟩,⟨3,some 13,none,.mov (.t 35),[]⟩,⟨4,some 14,none,.mov (.t 37),[]⟩]) (.seq (.ops [⟨0,some 38,none,.mov (.t 3),[]⟩,⟨1,some 39,none,.mov (.t 13),[]⟩,⟨2,some 40,none,.ixs 1 (.t 38) (.t 39),[]⟩,⟨3,some 41,none,.ld (.t 40),[]⟩,⟨4,some 42,none,.len (.t 41),[]⟩,⟨5,some 43,none,.mov (.c (.int .i64 0)),[]⟩]) (.block 4 (.loop (.seq (.ops [⟨0,some 44,none,.bin .lss (.t 43) (.t 42),[]⟩]) (.seq (.ite (.t 44) .skip (.exit 4)) (.seq (.block 5 (.seq (.ops [⟨0,some 45,none,.mov (.t 43),[]⟩,⟨1,some 46,none,.ixs 1 (.t 41) (.t 43),[]⟩,⟨2,some 47,none,.ld (.t 46),[]⟩,⟨3,some 15,none,.mov (.t 45),[]⟩,⟨4,some 16,none,.mov (.t 47),[]⟩]) (.dops [⟨0,some 48,none,.mov (.t 12),[]⟩,⟨1,some 49,none,.mov (.t 15),[]⟩,⟨2,some 50,none,.ixs 1 (.t 48) (.t 49),[]⟩,⟨3,some 51,none,.ld (.t 50),[]⟩,⟨4,some 52,none,.mov (.t 14),[]⟩,⟨5,some 53,none,.mov (.t 16),[]⟩,⟨6,some 54,none,.call (.c (.func (.func 149) #[] #[])) [.t 52,.t 53],[3]⟩,⟨7,some 55,none,.bin .xor (.t 51) (.t 54),[]⟩,⟨8,some 56,none,.ixs 1 (.t 48) (.t 49),[]⟩,⟨9,none,none,.st (.t 56) (.t 55),[]⟩]))) (.ops [⟨0,some 57,none,.bin .add (.t 43) (.c (.int .i64 1)),[]⟩,⟨1,some 43,none,.mov (.t 57),[]⟩]))))))))) (.ops [⟨0,some 58,none,.bin .add (.t 33) (.c (.int .i64 1)),[]⟩,⟨1,some 33,none,.mov (.t 58),[]⟩]))))))) (.ops [⟨0,some 59,none,.mov (.t 9),[]⟩,⟨1,some 60,none,.mov (.t 12),[]⟩,⟨2,some 61,none,.bsl 25 1 [.slice none 0 0] [(0,(1,.t 60))],[]⟩,⟨3,some 62,none,.app 25 24 [.slice none 0 0] (.t 59) (.t 61),[]⟩,⟨4,some 9,none,.mov (.t 62),[]⟩]))))) (.ops [⟨0,some 63,none,.bin .add (.t 22) (.c (.int .i64 1)),[]⟩,⟨1,some 22,none,.mov (.t 63),[]⟩]))))))) (.seq (.ops [⟨0,some 64,none,.mov (.t 9),[]⟩,⟨1,some 8,none,.mov (.t 64),[]⟩]) .ret)))
attribute [irreducible] c_cullettop_parity8
theorem run_cullettop_parity8 {args : List Value} {w : World} {K : Value → World → Prop} (hn : args.length ≤ 65) (h : WP Try.prog c_cullettop_parity8 (endQ [.t 8] K) (initT args) w) : CallV Try.prog 116 args w K :=
  call_of follows Try.func116 (by kernel_rfl) (by kernel_rfl) hn h
end Go.Proofs.Ytbaljbadlfopgaa.Fw
namespace Go.Proofs.Ytbaljbadlfopgaa.Fw
open Go Go.Fw
set_option maxHeartbeats 8000000 in
theorem cullettop_parity8_spec (w : World) (f : Int) (K M len : Nat) (s : Value) (hs : List Hd) (D : Nat → List (El 8)) (h : Sl w s hs) (hr : ∀ j (hj : j < hs.length), Sl w (Cell.v hs[j]) (D j)) (hn : hs.length = K) (hl : ∀ j, j < K → (D j).length = len) (hf : f = 0 ∨ f = 1) (hK : 1 ≤ K) (hKM : K + M ≤ 256) (hlen : len ≤ 140737488355328) :
    CallV Try.prog 116 [.int .i64 f, .int .i64 (K : Int), .int .i64 (M : Int), s] w fun v w' => RowKit.Below w.heap.size w w' ∧ ∃ hs' : List Hd, hs'.length = M ∧ ShT w.heap.size v hs' (fun j => parL f K len j D) w' := by
  refine run_cullettop_parity8 (by simp) ?_
  simp only [c_cullettop_parity8, WS, ↓reduceIte, Nat.reduceEqDiff, reduceCtorEq]
  refine X_call0 ((cullettop_rows8_spec w f K M hf hK hKM).mono ?_)
  rintro sF w1 ⟨B, hsF, lF, hF⟩
  have zB := B.size
  simp (maxSteps := 1000000) (disch := omega) only [WS, ↓reduceIte, Nat.reduceEqDiff, reduceCtorEq, AS, hF.top.sl.Xlen, lF]
  refine loop_of (fun t w' => t 3 = s ∧ t 20 = sF ∧ t 21 = .int .i64 (M : Int) ∧ RowKit.Below w1.heap.size w1 w' ∧ ∃ (j : Nat) (v : Value) (hs' : List Hd) (Rc : Nat → List (El 8)), t 22 = .int .i64 (j : Int) ∧ j ≤ M ∧ t 9 = v ∧ hs'.length = j ∧ (∀ i, i < j → Rc i = parL f K len i D) ∧ ShT w1.heap.size v hs' Rc w') (fun t _ => M - (toI (t 22)).toNat)
    ⟨by simp only [WS, ↓reduceIte, Nat.reduceEqDiff, reduceCtorEq], by simp only [WS, ↓reduceIte, Nat.reduceEqDiff, reduceCtorEq], by simp only [WS, ↓reduceIte, Nat.reduceEqDiff, reduceCtorEq], RowKit.Below.refl _ _, 0, _, [], fun _ => [], by simp only [WS, ↓reduceIte, Nat.reduceEqDiff, reduceCtorEq]; rfl, by omega, by simp only [WS, ↓reduceIte, Nat.reduceEqDiff, reduceCtorEq], rfl, fun i hi => absurd hi (Nat.not_lt_zero _), ShT.nil (Ow.nil _ _)⟩ ?_
  rintro t w2 ⟨t3, t20, t21, C, j, v, hsA, Rc, t22, hj, t9, lhs, hRc, hS⟩
  have zC := C.size
  by_cases hjm : j < M
  rotate_left
  · simp (maxSteps := 1000000) (disch := omega) only [WS, ↓reduceIte, Nat.reduceEqDiff, reduceCtorEq, AS, t3, t9, t20, t21, t22]
    exact ⟨B.trans (C.mono zB), hsA, by omega, (hS.mono zB).congr fun i hi => (hRc i (by omega)).symm⟩
  have B2 := B.trans (C.mono zB)
  have h2 := h.up B2
  have h0 : 0 < hs.length := by omega
  have r0 := (hr 0 h0).up B2
  have hF2 := hF.up C
  have jF : j < hsF.length := by omega
  have rF := hF2.sl jF
  have lr := rwL_len f K j
  have l0 := hl 0 (by omega)
  simp (maxSteps := 1000000) (disch := omega) only [WS, ↓reduceIte, Nat.reduceEqDiff, reduceCtorEq, AS, t3, t9, t20, t21, t22, hF2.top.sl.Xix jF, hF2.top.sl.Xld jF, h2.Xix0 h0, h2.Xld h0, r0.Xlen, l0]
  refine X_mks (x := (0 : El 8)) (n := len) (by simp only [maxBytes]; omega) (by omega) fun sx w3 ox hB3 => ?_
  simp (maxSteps := 1000000) (disch := omega) only [WS, ↓reduceIte, Nat.reduceEqDiff, reduceCtorEq, AS, t3, t9, t20, t21, t22, (rF.up hB3).Xlen, lr]
  refine loop_of (fun t w' => t 3 = s ∧ t 9 = v ∧ t 20 = sF ∧ t 21 = .int .i64 (M : Int) ∧ t 22 = .int .i64 (j : Int) ∧ t 12 = sx ∧ t 31 = Cell.v hsF[j] ∧ t 32 = .int .i64 (K : Int) ∧ RowKit.Below w2.heap.size w2 w' ∧ ∃ (l : Nat) (X : List (El 8)), t 33 = .int .i64 (l : Int) ∧ l ≤ K ∧ X.length = len ∧ (∀ x, x < len → nth X x = gsum l fun i => rwf f K j i * nth (D i) x) ∧ Ow w2.heap.size w' sx X) (fun t _ => K - (toI (t 33)).toNat)
    ⟨by simp only [WS, ↓reduceIte, Nat.reduceEqDiff, reduceCtorEq]; exact t3, by simp only [WS, ↓reduceIte, Nat.reduceEqDiff, reduceCtorEq]; exact t9, by simp only [WS, ↓reduceIte, Nat.reduceEqDiff, reduceCtorEq]; exact t20, by simp only [WS, ↓reduceIte, Nat.reduceEqDiff, reduceCtorEq]; exact t21, by simp only [WS, ↓reduceIte, Nat.reduceEqDiff, reduceCtorEq]; exact t22, by simp only [WS, ↓reduceIte, Nat.reduceEqDiff, reduceCtorEq], by simp only [WS, ↓reduceIte, Nat.reduceEqDiff, reduceCtorEq], by simp only [WS, ↓reduceIte, Nat.reduceEqDiff, reduceCtorEq], hB3, 0, _, by simp only [WS, ↓reduceIte, Nat.reduceEqDiff, reduceCtorEq]; rfl, by omega, List.length_replicate .., fun x hx => by rw [nth_rep]; rfl, ox⟩ ?_
  clear t3 t9 t20 t21 t22 ox hB3
  rintro t w4 ⟨t3, t9, t20, t21, t22, t12, t31, t32, E, l, X, t33, hl9, lX, hX, ox⟩
  have zE := E.size
  by_cases hlk : l < K
  rotate_left
  · have elk : l = K := by omega
    rw [elk] at hX
    have eX : X = parL f K len j D := List.ext_getElem (by rw [lX, parL_len]) fun x a1 a2 => by
      rw [parL_get a2, ← nth_get a1, hX x (by omega)]; rfl
    rw [eX] at ox
    have hcv : Cell.v (hd sx) = sx := ox.sl.hd.1
    simp (maxSteps := 1000000) (disch := omega) only [WS, ↓reduceIte, Nat.reduceEqDiff, reduceCtorEq, AS, t3, t9, t20, t21, t22, t12, t31, t32, t33]
    rw [← hcv]
    refine X_bsl (zs := [hd sx]) (by rfl) (by rfl) fun e1 w5 oe hB5 => ?_
    have C5 := C.trans ((E.trans (hB5.mono E.size)).mono C.size)
    have z5 := hB5.size
    have ot := (hS.top.up E).up hB5
    simp (maxSteps := 1000000) (disch := omega) only [WS, ↓reduceIte, Nat.reduceEqDiff, reduceCtorEq, AS, t3, t9, t20, t21, t22, t12, t31, t32, t33]
    refine Ow.Xapp2 ot oe.sl (by omega) (by simp only [List.length_singleton, maxBytes]; omega) (by simp only [List.length_singleton]; omega) fun v' w6 ov' hg => ?_
    have hS6 := hS.push zC E ox hB5 hg ov'
    have C6 := hg.below C5 (by omega) fun b hb => (ot.blk b hb).1
    simp (maxSteps := 1000000) (disch := omega) only [WS, ↓reduceIte, Nat.reduceEqDiff, reduceCtorEq, AS, t3, t9, t20, t21, t22, t12, t31, t32, t33]
    refine ⟨⟨C6, j + 1, v', _, _, rfl, by omega, rfl, by rw [List.length_append, lhs]; rfl, fun i hi => ?_, hS6⟩, by omega⟩
    by_cases e : i = j
    · rw [if_pos (by omega), e]
    · rw [if_neg (by omega)]; exact hRc i (by omega)
  have B4 := B2.trans (E.mono (by omega))
  have h4 := h.up B4
  have hlh : l < hs.length := by omega
  have r4 := (hr l hlh).up B4
  have rF4 := rF.up E
  have iF : l < (rwL f K j).length := by omega
  have eF := rwL_get iF
  have ll := hl l hlk
  simp (maxSteps := 1000000) (disch := omega) only [WS, ↓reduceIte, Nat.reduceEqDiff, reduceCtorEq, AS, t3, t9, t20, t21, t22, t12, t31, t32, t33, rF4.Xix iF, rF4.Xld iF, cell_e8, eF, h4.Xix hlh, h4.Xld hlh, r4.Xlen, ll]
  refine loop_of (fun t w' => t 3 = s ∧ t 9 = v ∧ t 20 = sF ∧ t 21 = .int .i64 (M : Int) ∧ t 22 = .int .i64 (j : Int) ∧ t 12 = sx ∧ t 31 = Cell.v hsF[j] ∧ t 32 = .int .i64 (K : Int) ∧ t 33 = .int .i64 (l : Int) ∧ t 14 = .int .u8 ((rwf f K j l).v.toNat : Int) ∧ t 41 = Cell.v hs[l] ∧ t 42 = .int .i64 (len : Int) ∧ RowKit.Below w2.heap.size w2 w' ∧ ∃ (x : Nat) (X : List (El 8)), t 43 = .int .i64 (x : Int) ∧ x ≤ len ∧ X.length = len ∧ (∀ y, y < len → nth X y = gsum (if y < x then l + 1 else l) fun i => rwf f K j i * nth (D i) y) ∧ Ow w2.heap.size w' sx X) (fun t _ => len - (toI (t 43)).toNat)
    ⟨by simp only [WS, ↓reduceIte, Nat.reduceEqDiff, reduceCtorEq]; exact t3, by simp only [WS, ↓reduceIte, Nat.reduceEqDiff, reduceCtorEq]; exact t9, by simp only [WS, ↓reduceIte, Nat.reduceEqDiff, reduceCtorEq]; exact t20, by simp only [WS, ↓reduceIte, Nat.reduceEqDiff, reduceCtorEq]; exact t21, by simp only [WS, ↓reduceIte, Nat.reduceEqDiff, reduceCtorEq]; exact t22, by simp only [WS, ↓reduceIte, Nat.reduceEqDiff, reduceCtorEq]; exact t12, by simp only [WS, ↓reduceIte, Nat.reduceEqDiff, reduceCtorEq]; exact t31, by simp only [WS, ↓reduceIte, Nat.reduceEqDiff, reduceCtorEq]; exact t32, by simp only [WS, ↓reduceIte, Nat.reduceEqDiff, reduceCtorEq]; exact t33, by simp only [WS, ↓reduceIte, Nat.reduceEqDiff, reduceCtorEq], by simp only [WS, ↓reduceIte, Nat.reduceEqDiff, reduceCtorEq], by simp only [WS, ↓reduceIte, Nat.reduceEqDiff, reduceCtorEq], E, 0, X, by simp only [WS, ↓reduceIte, Nat.reduceEqDiff, reduceCtorEq]; rfl, by omega, lX, fun y hy => by rw [if_neg (by omega)]; exact hX y hy, ox⟩ ?_
  clear t3 t9 t20 t21 t22 t12 t31 t32 t33 hX ox lX E zE B4 h4 r4 rF4 X
  rintro t w5 ⟨t3, t9, t20, t21, t22, t12, t31, t32, t33, t14, t41, t42, E, x, X, t43, hx, lX, hX, ox⟩
  by_cases hxl : x < len
  rotate_left
  · simp (maxSteps := 1000000) (disch := omega) only [WS, ↓reduceIte, Nat.reduceEqDiff, reduceCtorEq, AS, t3, t9, t20, t21, t22, t12, t31, t32, t33, t14, t41, t42, t43]
    exact ⟨⟨E, l + 1, X, rfl, by omega, lX, fun y hy => by rw [hX y hy, if_pos (by omega)], ox⟩, by omega⟩
  have B5 := B2.trans (E.mono (by omega))
  have r5 := (hr l hlh).up B5
  have ixD : x < (D l).length := by omega
  have eD : (D l)[x] = nth (D l) x := (nth_get ixD).symm
  have ixX : x < X.length := by omega
  have eX : X[x] = nth X x := (nth_get ixX).symm
  simp (maxSteps := 1000000) (disch := omega) only [WS, ↓reduceIte, Nat.reduceEqDiff, reduceCtorEq, AS, t3, t9, t20, t21, t22, t12, t31, t32, t33, t14, t41, t42, t43, r5.Xix ixD, r5.Xld ixD, cell_e8, eD]
  refine WP_dops ?_
  have bd := bel_drew w5
  have E := E.trans (bd.mono E.size)
  have ox := ox.up bd
  clear bd
  have see : Fw.sees Try.prog (.ld (.c (elP sx x))) w5.drew (.int .u8 ((X[x]).v.toNat : Int)) = True := ox.sl.sees ixX Try.prog
  simp (maxSteps := 1000000) (disch := omega) only [ES, List.mem_cons, List.not_mem_nil, implies_true, forall_const, WS, ↓reduceIte, Nat.reduceEqDiff, reduceCtorEq, AS, t3, t9, t20, t21, t22, t12, t31, t32, t33, t14, t41, t42, t43, ox.sl.Eix ixX, ox.sl.Eld ixX, cell_e8]
  refine E_call0 ((cullettop_mul8_spec w5.drew (rwf f K j l) (nth (D l) x)).mono ?_)
  rintro _ w6 ⟨rfl, rfl⟩
  simp (maxSteps := 1000000) (disch := omega) only [ES, List.mem_cons, List.not_mem_nil, implies_true, forall_const, WS, ↓reduceIte, Nat.reduceEqDiff, reduceCtorEq, AS, t3, t9, t20, t21, t22, t12, t31, t32, t33, t14, t41, t42, t43, see, xor8, ox.sl.Eix ixX]
  refine Ow.Est ox ixX (X[x] + rwf f K j l * nth (D l) x) fun w7 ox2 hg => ?_
  have E := Below.app E E.size hg fun b hb => (ox.blk b hb).1
  simp (maxSteps := 1000000) (disch := omega) only [ES, List.mem_cons, List.not_mem_nil, implies_true, forall_const, WS, ↓reduceIte, Nat.reduceEqDiff, reduceCtorEq, AS, t3, t9, t20, t21, t22, t12, t31, t32, t33, t14, t41, t42, t43]
  refine ⟨⟨E, x + 1, _, rfl, by omega, by rw [List.length_set]; exact lX, fun y hy => ?_, ox2⟩, by omega⟩
  rw [nth_set ixX]
  by_cases e : y = x
  · subst e
    rw [if_pos rfl, if_pos (by omega), eX, hX y hy, if_neg (by omega)]
    rfl
  · rw [if_neg e, hX y hy]
    by_cases e2 : y < x
    · rw [if_pos e2, if_pos (by omega)]
    · rw [if_neg e2, if_neg (by omega)]
theorem cullettop_parity_spec (w : World) (f : Int) (K M len : Nat) (s : Value) (hs : List Hd) (D : Nat → List (El 8)) (h : Sl w s hs) (hr : ∀ j (hj : j < hs.length), Sl w (Cell.v hs[j]) (D j)) (hn : hs.length = K) (hl : ∀ j, j < K → (D j).length = len) (hf : f = 0 ∨ f = 1) (hK : 1 ≤ K) (hKM : K + M ≤ 256) (hlen : len ≤ 140737488355328) :
    CallV Try.prog 78 [.int .i64 f, .int .i64 (K : Int), .int .i64 (M : Int), s] w fun v w' => RowKit.Below w.heap.size w w' ∧ ∃ hs' : List Hd, hs'.length = M ∧ ShT w.heap.size v hs' (fun j => parL f K len j D) w' := by
  refine run_cullettop_parity (by simp) ?_
  have hf2 : ¬ f = 2 := by omega
  simp only [c_cullettop_parity, WS, ↓reduceIte, Nat.reduceEqDiff, reduceCtorEq]
  simp (maxSteps := 1000000) (disch := omega) only [WS, ↓reduceIte, Nat.reduceEqDiff, reduceCtorEq, AS, decide_eq_false hf2]
  refine X_call0 ((cullettop_parity8_spec w f K M len s hs D h hr hn hl hf hK hKM hlen).mono ?_)
  rintro v w1 hh
  simp (maxSteps := 1000000) (disch := omega) only [WS, ↓reduceIte, Nat.reduceEqDiff, reduceCtorEq, AS]
  exact hh
/-- The codeword of these data: values of polynomials. -/
theorem cullettop_word_spec (w : World) (f : Int) (K M len : Nat) (s : Value) (hs : List Hd) (D : Nat → List (El 8)) (h : Sl w s hs) (hr : ∀ j (hj : j < hs.length), Sl w (Cell.v hs[j]) (D j)) (hn : hs.length = K) (hl : ∀ j, j < K → (D j).length = len) (hf : f = 0 ∨ f = 1) (hK : 1 ≤ K) (hKM : K + M ≤ 256) (hlen : len ≤ 140737488355328) :
    CallV Try.prog 47 [.int .i64 f, .int .i64 (K : Int), .int .i64 (M : Int), s] w fun v w' => RowKit.Below w.heap.size w w' ∧ ∃ (hs' : List Hd), hs'.length = K + M ∧ ShT w.heap.size v hs' (fun j => if j < K then D j else parL f K len (j - K) D) w' := by
  refine run_cullettop_word (by simp) ?_
  simp only [c_cullettop_word, WS, ↓reduceIte, Nat.reduceEqDiff, reduceCtorEq]
  refine X_call0 ((cullettop_twin_spec w s hs D h hr (by omega) (fun j hj => by rw [hl j (by omega)]; exact hlen)).mono ?_)
  rintro sv w1 ⟨B, hs1, lhs1, h1⟩
  simp (maxSteps := 1000000) (disch := omega) only [WS, ↓reduceIte, Nat.reduceEqDiff, reduceCtorEq, AS]
  refine X_call0 ((cullettop_parity_spec w1 f K M len s hs D (h.up B) (fun j hj => (hr j hj).up B) hn hl hf hK hKM hlen).mono ?_)
  rintro sp w2 ⟨B2, hs2, lhs2, h2⟩
  have z1 := B.size
  have z2 := B2.size
  have hb1 := h1.top.blk
  have hb2 : ∀ j (hj : j < hs1.length) b, D j ≠ [] → Fw.blk (Cell.v hs1[j]) = some b → b < w1.heap.size := fun j hj b hn hb => by
    obtain ⟨c, hc, -, hc2⟩ := (h1.row j hj hn).blk
    rw [hc] at hb; cases hb; exact hc2
  have h12 := h1.up B2
  simp (maxSteps := 1000000) (disch := omega) only [WS, ↓reduceIte, Nat.reduceEqDiff, reduceCtorEq, AS]
  refine Ow.Xapp2 h12.top h2.top.sl (by omega) (by simp only [maxBytes]; omega) (by omega) fun v' w3 ov' hg => ?_
  have h3 := h12.app h2 z1 (fun b hb => (hb1 b hb).2) hb2 z2 hg ov'
  have B3 := hg.below (B.trans (B2.mono z1)) (by omega) fun b hb => (h12.top.blk b hb).1
  simp (maxSteps := 1000000) (disch := omega) only [WS, ↓reduceIte, Nat.reduceEqDiff, reduceCtorEq, AS]
  refine ⟨B3, _, by rw [List.length_append, lhs1, lhs2, hn], h3.congr fun j hj => ?_⟩
  rw [lhs1, hn]
end Go.Proofs.Ytbaljbadlfopgaa.Fw

set_option linter.unusedVariables false
set_option linter.unusedSimpArgs false
set_option maxRecDepth 100000
set_option maxHeartbeats 1000000
namespace Go.Proofs.Ytbaljbadlfopgaa.Fw
open Go Go.Fw Go.Proofs
attribute [local irreducible] stepI
def c_cullettop_valid : C := .seq (.ops [⟨0,some 6,none,.mov (.c (.bool false)),[]⟩]) (.seq (.seq (.ops [⟨0,some 7,none,.mov (.t 1),[]⟩,⟨1,some 8,none,.bin .lss (.t 7) (.c (.int .i64 1)),[]⟩,⟨2,some 9,none,.mov (.t 8),[]⟩,⟨3,some 10,(some (9,false)),.mov (.t 2),[]⟩,⟨4,some 11,(some (9,false)),.bin .lss (.t 10) (.c (.int .i64 1)),[]⟩,⟨5,some 12,none,.pick (.t 9) (.c (.bool true)) (.t 11),[]⟩]) (.ite (.t 12) (.seq (.ops [⟨0,some 6,none,.mov (.c (.bool false)),[]⟩]) .ret) .skip)) (.seq (.seq (.ops [⟨0,some 13,none,.mov (.t 0),[]⟩,⟨1,some 14,none,.bin .eql (.t 13) (.c (.int .i64 0)),[]⟩,⟨2,some 15,none,.mov (.t 14),[]⟩,⟨3,some 16,(some (15,false)),.mov (.t 0),[]⟩,⟨4,some 17,(some (15,false)),.bin .eql (.t 16) (.c (.int .i64 1)),[]⟩,⟨5,some 18,none,.pick (.t 15) (.c (.bool true)) (.t 17),[]⟩]) (.ite (.t 18) (.seq (.ops [⟨0,some 19,none,.mov (.t 1),[]⟩,⟨1,some 20,none,.bin .leq (.t 19) (.c (.int .i64 256)),[]⟩,⟨2,some 21,none,.mov (.t 20),[]⟩,⟨3,some 22,(some (21,true)),.mov (.t 2),[]⟩,⟨4,some 23,(some (21,true)),.bin .leq (.t 22) (.c (.int .i64 256)),[]⟩,⟨5,some 24,none,.pick (.t 21) (.t 23) (.c (.bool false)),[]⟩,⟨6,some 25,none,.mov (.t 24),[]⟩,⟨7,some 26,(some (25,true)),.mov (.t 1),[]⟩,⟨8,some 27,(some (25,true)),.mov (.t 2),[]⟩,⟨9,some 28,(some (25,true)),.bin .add (.t 26) (.t 27),[]⟩,⟨10,some 29,(some (25,true)),.bin .leq (.t 28) (.c (.int .i64 256)),[]⟩,⟨11,some 30,none,.pick (.t 25) (.t 29) (.c (.bool false)),[]⟩,⟨12,some 6,none,.mov (.t 30),[]⟩]) .ret) .skip)) (.seq (.ops [⟨0,some 31,none,.mov (.t 0),[]⟩,⟨1,some 32,none,.bin .eql (.t 31) (.c (.int .i64 2)),[]⟩,⟨2,some 33,none,.mov (.t 32),[]⟩,⟨3,some 34,(some (33,true)),.mov (.t 1),[]⟩,⟨4,some 35,(some (33,true)),.bin .leq (.t 34) (.c (.int .i64 65536)),[]⟩,⟨5,some 36,none,.pick (.t 33) (.t 35) (.c (.bool false)),[]⟩,⟨6,some 37,none,.mov (.t 36),[]⟩,⟨7,some 38,(some (37,true)),.mov (.t 2),[]⟩,⟨8,some 39,(some (37,true)),.bin .leq (.t 38) (.c (.int .i64 65536)),[]⟩,⟨9,some 40,none,.pick (.t 37) (.t 39) (.c (.bool false)),[]⟩,⟨10,some 41,none,.mov (.t 40),[]⟩,⟨11,some 42,(some (41,true)),.mov (.t 2),[]⟩,⟨12,some 43,(some (41,true)),.call (.c (.func (.func 33) #[] #[])) [.t 42],[]⟩,⟨13,some 44,(some (41,true)),.mov (.t 1),[]⟩,⟨14,some 45,(some (41,true)),.bin .add (.t 43) (.t 44),[]⟩,⟨15,some 46,(some (41,true)),.bin .leq (.t 45) (.c (.int .i64 65536)),[]⟩,⟨16,some 47,none,.pick (.t 41) (.t 46) (.c (.bool false)),[]⟩,⟨17,some 6,none,.mov (.t 47),[]⟩]) .ret)))
attribute [irreducible] c_cullettop_valid
theorem run_cullettop_valid {args : List Value} {w : World} {K : Value → World → Prop} (hn : args.length ≤ 48) (h : WP Try.prog c_cullettop_valid (endQ [.t 6] K) (initT args) w) : CallV Try.prog 32 args w K :=
  call_of follows Try.func32 (by kernel_rfl) (by kernel_rfl) hn h
def c_cullettop_apart : C := .seq (.ops [⟨0,some 6,none,.mov (.c (.bool false)),[]⟩,⟨1,some 7,none,.mov (.c (.slice none 0 0)),[]⟩]) (.seq (.ops [⟨0,some 8,none,.mov (.c (.slice none 0 0)),[]⟩]) (.seq (.ops [⟨0,some 16,none,.mov (.t 1),[]⟩,⟨1,some 17,none,.ixs 1 (.t 16) (.c (.int .i64 0)),[]⟩,⟨2,some 18,none,.ld (.t 17),[]⟩,⟨3,some 19,none,.len (.t 18),[]⟩,⟨4,some 20,none,.mks 3 8 [.int .i64 0] (.t 19) (.t 19),[]⟩,⟨5,some 9,none,.mov (.t 20),[]⟩]) (.seq (.ops [⟨0,some 10,none,.mov (.c (.bool true)),[]⟩]) (.seq (.seq (.ops [⟨0,some 21,none,.mov (.t 0),[]⟩,⟨1,some 22,none,.len (.t 21),[]⟩,⟨2,some 23,none,.mov (.c (.int .i64 0)),[]⟩]) (.block 0 (.loop (.seq (.ops [⟨0,some 24,none,.bin .lss (.t 23) (.t 22),[]⟩]) (.seq (.ite (.t 24) .skip (.exit 0)) (.seq (.block 1 (.seq (.ops [⟨0,some 25,none,.mov (.t 23),[]⟩,⟨1,some 26,none,.ixs 1 (.t 21) (.t 23),[]⟩,⟨2,some 27,none,.ld (.t 26),[]⟩,⟨3,some 11,none,.mov (.t 25),[]⟩,⟨4,some 12,none,.mov (.t 27),[]⟩]) (.seq (.ops [⟨0,some 13,none,.mov (.c (.int .i64 0)),[]⟩]) (.seq (.seq (.ops [⟨0,some 28,none,.mov (.t 12),[]⟩,⟨1,some 29,none,.len (.t 28),[]⟩,⟨2,some 30,none,.mov (.c (.int .i64 0)),[]⟩]) (.block 2 (.loop (.seq (.ops [⟨0,some 31,none,.bin .lss (.t 30) (.t 29),[]⟩]) (.seq (.ite (.t 31) .skip (.exit 2)) (.seq (.block 3 (.seq (.ops [⟨0,some 32,none,.mov (.t 30),[]⟩,⟨1,some 33,none,.ixs 1 (.t 28) (.t 30),[]⟩,⟨2,some 34,none,.ld (.t 33),[]⟩,⟨3,some 14,none,.mov (.t 32),[]⟩,⟨4,some 15,none,.mov (.t 34),[]⟩]) (.seq (.ops [⟨0,some 35,none,.mov (.t 15),[]⟩,⟨1,some 36,none,.mov (.t 1),[]⟩,⟨2,some 37,none,.mov (.t 11),[]⟩,⟨3,some 38,none,.ixs 1 (.t 36) (.t 37),[]⟩,⟨4,some 39,none,.ld (.t 38),[]⟩,⟨5,some 40,none,.mov (.t 14),[]⟩,⟨6,some 41,none,.ixs 1 (.t 39) (.t 40),[]⟩,⟨7,some 42,none,.ld (.t 41),[]⟩,⟨8,some 43,none,.bin .neq (.t 35) (.t 42),[]⟩]) (.ite (.t 43) (.seq (.ops [⟨0,some 13,none,.mov (.c (.int .i64 1)),[]⟩]) (.seq (.ops [⟨0,some 44,none,.mov (.t 9),[]⟩,⟨1,some 45,none,.mov (.t 14),[]⟩,⟨2,some 46,none,.ixs 1 (.t 44) (.t 45),[]⟩,⟨3,some 47,none,.ld (.t 46),[]⟩,⟨4,some 48,none,.bin .add (.t 47) (.c (.int .i64 1)),[]⟩,⟨5,some 49,none,.ixs 1 (.t 44) (.t 45),[]⟩,⟨6,none,none,.st (.t 49) (.t 48),[]⟩]) (.ops [⟨0,some 50,none,.mov (.t 10),[]⟩,⟨1,some 51,none,.mov (.t 50),[]⟩,⟨2,some 52,(some (51,true)),.mov (.t 9),[]⟩,⟨3,some 53,(some (51,true)),.mov (.t 14),[]⟩,⟨4,some 54,(some (51,true)),.ixs 1 (.t 52) (.t 53),[]⟩,⟨5,some 55,(some (51,true)),.ld (.t 54),[]⟩,⟨6,some 56,(some (51,true)),.mov (.t 2),[]⟩,⟨7,some 57,(some (51,true)),.bin .leq (.t 55) (.t 56),[]⟩,⟨8,some 58,none,.pick (.t 51) (.t 57) (.c (.bool false)),[]⟩,⟨9,some 10,none,.mov (.t 58),[]⟩]))) .skip)))) (.ops [⟨0,some 59,none,.bin .add (.t 30) (.c (.int .i64 1)),[]⟩,⟨1,some 30,none,.mov (.t 59),[]⟩]))))))) (.seq (.ops [⟨0,some 60,none,.mov (.t 13),[]⟩,⟨1,some 61,none,.bin .eql (.t 60) (.c (.int .i64 1)),[]⟩]) (.ite (.t 61) (.ops [⟨0,some 62,none,.mov (.t 8),[]⟩,⟨1,some 63,none,.mov (.t 11),[]⟩,⟨2,some 64,none,.bsl 3 1 [.int .i64 0] [(0,(1,.t 63))],[]⟩,⟨3,some 65,none,.app 3 8 [.int .i64 0] (.t 62) (.t 64),[]⟩,⟨4,some 8,none,.mov (.t 65),[]⟩]) .skip)))))) (.ops [⟨0,some 66,none,.bin .add (.t 23) (.c (.int .i64 1)),[]⟩,⟨1,some 23,none,.mov (.t 66),[]⟩]))))))) (.seq (.ops [⟨0,some 67,none,.mov (.t 10),[]⟩,⟨1,some 68,none,.mov (.t 8),[]⟩,⟨2,some 6,none,.mov (.t 67),[]⟩,⟨3,some 7,none,.mov (.t 68),[]⟩]) .ret)))))
attribute [irreducible] c_cullettop_apart
theorem run_cullettop_apart {args : List Value} {w : World} {K : Value → World → Prop} (hn : args.length ≤ 69) (h : WP Try.prog c_cullettop_apart (endQ [.t 6, .t 7] K) (initT args) w) : CallV Try.prog 49 args w K :=
  call_of follows Try.func49 (by kernel_rfl) (by kernel_rfl) hn h
end Go.Proofs.Ytbaljbadlfopgaa.Fw
namespace Go.Proofs.Ytbaljbadlfopgaa.Fw
open Go Go.Fw
theorem cullettop_valid_spec (w : World) (f k m : Int) (hf2 : f ≠ 2) (hk : k ≤ 140737488355328) : CallV Try.prog 32 [.int .i64 f, .int .i64 k, .int .i64 m] w fun v w' => w' = w ∧ v = .bool (decide ((f = 0 ∨ f = 1) ∧ 1 ≤ k ∧ 1 ≤ m ∧ k ≤ 256 ∧ m ≤ 256 ∧ k + m ≤ 256)) := by
  refine run_cullettop_valid (by simp) ?_
  simp only [c_cullettop_valid, WS, ↓reduceIte, Nat.reduceEqDiff, reduceCtorEq]
  by_cases h1 : k < 1
  · have e : decide ((f = 0 ∨ f = 1) ∧ 1 ≤ k ∧ 1 ≤ m ∧ k ≤ 256 ∧ m ≤ 256 ∧ k + m ≤ 256) = false := decide_eq_false (fun h => by omega)
    simp (maxSteps := 1000000) (disch := omega) only [WS, ↓reduceIte, Nat.reduceEqDiff, reduceCtorEq, AS, decide_eq_true h1, e]
  by_cases h2 : m < 1
  · have e : decide ((f = 0 ∨ f = 1) ∧ 1 ≤ k ∧ 1 ≤ m ∧ k ≤ 256 ∧ m ≤ 256 ∧ k + m ≤ 256) = false := decide_eq_false (fun h => by omega)
    simp (maxSteps := 1000000) (disch := omega) only [WS, ↓reduceIte, Nat.reduceEqDiff, reduceCtorEq, AS, decide_eq_false h1, decide_eq_true h2, e]
  by_cases h0 : f = 0
  · by_cases h3 : k ≤ 256
    rotate_left
    · have e : decide ((f = 0 ∨ f = 1) ∧ 1 ≤ k ∧ 1 ≤ m ∧ k ≤ 256 ∧ m ≤ 256 ∧ k + m ≤ 256) = false := decide_eq_false (fun h => by omega)
      simp (maxSteps := 1000000) (disch := omega) only [WS, ↓reduceIte, Nat.reduceEqDiff, reduceCtorEq, AS, decide_eq_false h1, decide_eq_false h2, decide_eq_true h0, decide_eq_false h3, e]
    by_cases h4 : m ≤ 256
    rotate_left
    · have e : decide ((f = 0 ∨ f = 1) ∧ 1 ≤ k ∧ 1 ≤ m ∧ k ≤ 256 ∧ m ≤ 256 ∧ k + m ≤ 256) = false := decide_eq_false (fun h => by omega)
      simp (maxSteps := 1000000) (disch := omega) only [WS, ↓reduceIte, Nat.reduceEqDiff, reduceCtorEq, AS, decide_eq_false h1, decide_eq_false h2, decide_eq_true h0, decide_eq_true h3, decide_eq_false h4, e]
    have hw : IntKind.i64.wrap (k + m) = k + m := wrap_id (by omega) (by omega)
    by_cases h5 : k + m ≤ 256
    · have e : decide ((f = 0 ∨ f = 1) ∧ 1 ≤ k ∧ 1 ≤ m ∧ k ≤ 256 ∧ m ≤ 256 ∧ k + m ≤ 256) = true := decide_eq_true (by omega)
      simp (maxSteps := 1000000) (disch := omega) only [WS, ↓reduceIte, Nat.reduceEqDiff, reduceCtorEq, AS, decide_eq_false h1, decide_eq_false h2, decide_eq_true h0, decide_eq_true h3, decide_eq_true h4, hw, decide_eq_true h5, e]
    · have e : decide ((f = 0 ∨ f = 1) ∧ 1 ≤ k ∧ 1 ≤ m ∧ k ≤ 256 ∧ m ≤ 256 ∧ k + m ≤ 256) = false := decide_eq_false (fun h => by omega)
      simp (maxSteps := 1000000) (disch := omega) only [WS, ↓reduceIte, Nat.reduceEqDiff, reduceCtorEq, AS, decide_eq_false h1, decide_eq_false h2, decide_eq_true h0, decide_eq_true h3, decide_eq_true h4, hw, decide_eq_false h5, e]
  by_cases h9 : f = 1
  · by_cases h3 : k ≤ 256
    rotate_left
    · have e : decide ((f = 0 ∨ f = 1) ∧ 1 ≤ k ∧ 1 ≤ m ∧ k ≤ 256 ∧ m ≤ 256 ∧ k + m ≤ 256) = false := decide_eq_false (fun h => by omega)
      simp (maxSteps := 1000000) (disch := omega) only [WS, ↓reduceIte, Nat.reduceEqDiff, reduceCtorEq, AS, decide_eq_false h1, decide_eq_false h2, decide_eq_false h0, decide_eq_true h9, decide_eq_false h3, e]
    by_cases h4 : m ≤ 256
    rotate_left
    · have e : decide ((f = 0 ∨ f = 1) ∧ 1 ≤ k ∧ 1 ≤ m ∧ k ≤ 256 ∧ m ≤ 256 ∧ k + m ≤ 256) = false := decide_eq_false (fun h => by omega)
      simp (maxSteps := 1000000) (disch := omega) only [WS, ↓reduceIte, Nat.reduceEqDiff, reduceCtorEq, AS, decide_eq_false h1, decide_eq_false h2, decide_eq_false h0, decide_eq_true h9, decide_eq_true h3, decide_eq_false h4, e]
    have hw : IntKind.i64.wrap (k + m) = k + m := wrap_id (by omega) (by omega)
    by_cases h5 : k + m ≤ 256
    · have e : decide ((f = 0 ∨ f = 1) ∧ 1 ≤ k ∧ 1 ≤ m ∧ k ≤ 256 ∧ m ≤ 256 ∧ k + m ≤ 256) = true := decide_eq_true (by omega)
      simp (maxSteps := 1000000) (disch := omega) only [WS, ↓reduceIte, Nat.reduceEqDiff, reduceCtorEq, AS, decide_eq_false h1, decide_eq_false h2, decide_eq_false h0, decide_eq_true h9, decide_eq_true h3, decide_eq_true h4, hw, decide_eq_true h5, e]
    · have e : decide ((f = 0 ∨ f = 1) ∧ 1 ≤ k ∧ 1 ≤ m ∧ k ≤ 256 ∧ m ≤ 256 ∧ k + m ≤ 256) = false := decide_eq_false (fun h => by omega)
      simp (maxSteps := 1000000) (disch := omega) only [WS, ↓reduceIte, Nat.reduceEqDiff, reduceCtorEq, AS, decide_eq_false h1, decide_eq_false h2, decide_eq_false h0, decide_eq_true h9, decide_eq_true h3, decide_eq_true h4, hw, decide_eq_false h5, e]
  have e : decide ((f = 0 ∨ f = 1) ∧ 1 ≤ k ∧ 1 ≤ m ∧ k ≤ 256 ∧ m ≤ 256 ∧ k + m ≤ 256) = false := decide_eq_false (fun h => by omega)
  simp (maxSteps := 1000000) (disch := omega) only [WS, ↓reduceIte, Nat.reduceEqDiff, reduceCtorEq, AS, decide_eq_false h1, decide_eq_false h2, decide_eq_false h0, decide_eq_false h9, decide_eq_false hf2, e]
/-- In how many of the first n rows with bytes byte t is another one. -/
def cn (Rs Rw : Nat → List (El 8)) (n t : Nat) : Nat := ((prsL (fun j => (Rs j).length) n).filter fun s => !decide (nth (Rs s) t = nth (Rw s) t)).length
def wrg (Rs Rw : Nat → List (El 8)) (n : Nat) : List Int := ((prsL (fun j => (Rs j).length) n).filter fun s => !decide (Rs s = Rw s)).map fun (j : Nat) => (j : Int)
theorem cn_le (Rs Rw : Nat → List (El 8)) (n t : Nat) : cn Rs Rw n t ≤ n := by
  unfold cn
  have := List.length_filter_le (fun s => !decide (nth (Rs s) t = nth (Rw s) t)) (prsL (fun j => (Rs j).length) n)
  have := prsL_len (fun j => (Rs j).length) n
  omega
theorem wrg_le (Rs Rw : Nat → List (El 8)) (n : Nat) : (wrg Rs Rw n).length ≤ n := by
  unfold wrg
  rw [List.length_map]
  have := List.length_filter_le (fun s => !decide (Rs s = Rw s)) (prsL (fun j => (Rs j).length) n)
  have := prsL_len (fun j => (Rs j).length) n
  omega
theorem cn_succ (Rs Rw : Nat → List (El 8)) (n t : Nat) : cn Rs Rw (n + 1) t = cn Rs Rw n t + if (Rs n).length ≠ 0 ∧ nth (Rs n) t ≠ nth (Rw n) t then 1 else 0 := by
  unfold cn
  rw [prsL_succ]
  by_cases h0 : (Rs n).length = 0
  · rw [if_pos h0, if_neg (fun h => h.1 h0)]; rfl
  · rw [if_neg h0, List.filter_append, List.length_append]
    by_cases he : nth (Rs n) t = nth (Rw n) t
    · rw [if_neg (fun h => h.2 he)]; simp [he]
    · rw [if_pos ⟨h0, he⟩]; simp [he]
theorem wrg_succ (Rs Rw : Nat → List (El 8)) (n : Nat) : wrg Rs Rw (n + 1) = wrg Rs Rw n ++ if (Rs n).length ≠ 0 ∧ Rs n ≠ Rw n then [(n : Int)] else [] := by
  unfold wrg
  rw [prsL_succ]
  by_cases h0 : (Rs n).length = 0
  · rw [if_pos h0, if_neg (fun h => h.1 h0), List.append_nil]
  · rw [if_neg h0, List.filter_append, List.map_append]
    by_cases he : Rs n = Rw n
    · rw [if_neg (fun h => h.2 he)]; simp [he]
    · rw [if_pos ⟨h0, he⟩]; simp [he]
set_option maxHeartbeats 8000000 in
theorem cullettop_apart_spec (w : World) (s1 s2 : Value) (hs1 hs2 : List Hd) (Rs Rw : Nat → List (El 8)) (len most : Nat) (h1 : Sl w s1 hs1) (h2 : Sl w s2 hs2) (hr1 : ∀ j (hj : j < hs1.length), Sl w (Cell.v hs1[j]) (Rs j)) (hr2 : ∀ j (hj : j < hs2.length), Sl w (Cell.v hs2[j]) (Rw j))
    (hn : hs2.length = hs1.length) (hn2 : hs1.length ≤ 256) (h0 : 1 ≤ hs1.length) (hl1 : ∀ j, j < hs1.length → (Rs j).length = 0 ∨ (Rs j).length = len) (hl2 : ∀ j, j < hs1.length → (Rw j).length = len) (hlen : len ≤ 1048576) (hm : most ≤ 1048576) :
    CallV Try.prog 49 [s1, s2, .int .i64 (most : Int)] w fun v w' => RowKit.Below w.heap.size w w' ∧ ∃ (b : Bool) (sw : Value), v = .tuple #[.bool b, sw] ∧ (b = true ↔ ∀ t, t < len → cn Rs Rw hs1.length t ≤ most) ∧ Ow w.heap.size w' sw (wrg Rs Rw hs1.length) := by
  refine run_cullettop_apart (by simp) ?_
  have i0 : 0 < hs2.length := by omega
  have l0 := hl2 0 (by omega)
  simp only [c_cullettop_apart, WS, ↓reduceIte, Nat.reduceEqDiff, reduceCtorEq, h2.Xix0 i0, h2.Xld i0, (hr2 0 i0).Xlen, l0]
  refine X_mks (x := (0 : Int)) (n := len) (by simp only [maxBytes]; omega) (by omega) fun sc w1 oc hB => ?_
  simp (maxSteps := 1000000) (disch := omega) only [WS, ↓reduceIte, Nat.reduceEqDiff, reduceCtorEq, AS, (h1.up hB).Xlen]
  refine loop_of (fun t w' => t 1 = s2 ∧ t 2 = .int .i64 (most : Int) ∧ t 9 = sc ∧ t 21 = s1 ∧ t 22 = .int .i64 (hs1.length : Int) ∧ RowKit.Below w.heap.size w w' ∧ ∃ (i : Nat) (b : Bool) (sw : Value) (cL : List Int), t 23 = .int .i64 (i : Int) ∧ i ≤ hs1.length ∧ t 8 = sw ∧ t 10 = .bool b ∧ (b = true ↔ ∀ t, t < len → cn Rs Rw i t ≤ most) ∧ cL.length = len ∧ (∀ t (ht : t < cL.length), cL[t] = (cn Rs Rw i t : Int)) ∧ Ow w.heap.size w' sc cL ∧ Ow w1.heap.size w' sw (wrg Rs Rw i) ∧ w1.heap.size ≤ w'.heap.size) (fun t _ => hs1.length - (toI (t 23)).toNat)
    ⟨by simp only [WS, ↓reduceIte, Nat.reduceEqDiff, reduceCtorEq], by simp only [WS, ↓reduceIte, Nat.reduceEqDiff, reduceCtorEq], by simp only [WS, ↓reduceIte, Nat.reduceEqDiff, reduceCtorEq], by simp only [WS, ↓reduceIte, Nat.reduceEqDiff, reduceCtorEq], by simp only [WS, ↓reduceIte, Nat.reduceEqDiff, reduceCtorEq], hB, 0, true, _, _, by simp only [WS, ↓reduceIte, Nat.reduceEqDiff, reduceCtorEq]; rfl, by omega, by simp only [WS, ↓reduceIte, Nat.reduceEqDiff, reduceCtorEq], by simp only [WS, ↓reduceIte, Nat.reduceEqDiff, reduceCtorEq], ⟨fun _ t _ => Nat.zero_le _, fun _ => rfl⟩, List.length_replicate .., fun t ht => by rw [List.getElem_replicate]; rfl, oc, Ow.nil _ _, Nat.le_refl _⟩ ?_
  have hbc := oc.blk
  have zB := hB.size
  clear oc hB
  rintro t w2 ⟨t1, t2, t9, t21, t22, B, i, b, sw, cL, t23, hi, t8, t10, hb, lc, hc, oc, ow, z2⟩
  by_cases hil : i < hs1.length
  rotate_left
  · have eil : i = hs1.length := by omega
    rw [eil] at ow hb
    simp (maxSteps := 1000000) (disch := omega) only [WS, ↓reduceIte, Nat.reduceEqDiff, reduceCtorEq, AS, t1, t2, t8, t9, t10, t21, t22, t23]
    exact ⟨B, b, sw, rfl, hb, ow.mono zB⟩
  have h1' := h1.up B
  have h2' := h2.up B
  have r1 := (hr1 i hil).up B
  have i2 : i < hs2.length := by omega
  have r2 := (hr2 i i2).up B
  have l2 := hl2 i hil
  have l1 := hl1 i hil
  simp (maxSteps := 1000000) (disch := omega) only [WS, ↓reduceIte, Nat.reduceEqDiff, reduceCtorEq, AS, t1, t2, t8, t9, t10, t21, t22, t23, h1'.Xix hil, h1'.Xld hil, r1.Xlen]
  refine loop_of (fun t w' => t 1 = s2 ∧ t 2 = .int .i64 (most : Int) ∧ t 8 = sw ∧ t 9 = sc ∧ t 21 = s1 ∧ t 22 = .int .i64 (hs1.length : Int) ∧ t 23 = .int .i64 (i : Int) ∧ t 11 = .int .i64 (i : Int) ∧ t 28 = Cell.v hs1[i] ∧ t 29 = .int .i64 ((Rs i).length : Int) ∧ RowKit.Below w.heap.size w w' ∧ ∃ (x : Nat) (b : Bool) (is : Int) (cL : List Int), t 30 = .int .i64 (x : Int) ∧ x ≤ (Rs i).length ∧ t 10 = .bool b ∧ t 13 = .int .i64 is ∧ (is = 0 ∨ is = 1) ∧ (is = 1 ↔ ∃ y, y < x ∧ nth (Rs i) y ≠ nth (Rw i) y) ∧ cL.length = len ∧ (∀ y (hy : y < cL.length), cL[y] = ((if y < x then cn Rs Rw (i + 1) y else cn Rs Rw i y : Nat) : Int)) ∧ (b = true ↔ ∀ y, y < len → (if y < x then cn Rs Rw (i + 1) y else cn Rs Rw i y) ≤ most) ∧ Ow w.heap.size w' sc cL ∧ Ow w1.heap.size w' sw (wrg Rs Rw i) ∧ w1.heap.size ≤ w'.heap.size) (fun t _ => (Rs i).length - (toI (t 30)).toNat)
    ⟨by simp only [WS, ↓reduceIte, Nat.reduceEqDiff, reduceCtorEq]; exact t1, by simp only [WS, ↓reduceIte, Nat.reduceEqDiff, reduceCtorEq]; exact t2, by simp only [WS, ↓reduceIte, Nat.reduceEqDiff, reduceCtorEq]; exact t8, by simp only [WS, ↓reduceIte, Nat.reduceEqDiff, reduceCtorEq]; exact t9, by simp only [WS, ↓reduceIte, Nat.reduceEqDiff, reduceCtorEq]; exact t21, by simp only [WS, ↓reduceIte, Nat.reduceEqDiff, reduceCtorEq]; exact t22, by simp only [WS, ↓reduceIte, Nat.reduceEqDiff, reduceCtorEq]; exact t23, by simp only [WS, ↓reduceIte, Nat.reduceEqDiff, reduceCtorEq], by simp only [WS, ↓reduceIte, Nat.reduceEqDiff, reduceCtorEq], by simp only [WS, ↓reduceIte, Nat.reduceEqDiff, reduceCtorEq], B, 0, b, 0, cL, by simp only [WS, ↓reduceIte, Nat.reduceEqDiff, reduceCtorEq]; rfl, by omega, by simp only [WS, ↓reduceIte, Nat.reduceEqDiff, reduceCtorEq]; exact t10, by simp only [WS, ↓reduceIte, Nat.reduceEqDiff, reduceCtorEq], Or.inl rfl, ⟨fun e => absurd e (by decide), fun ⟨y, hy, _⟩ => absurd hy (Nat.not_lt_zero _)⟩, lc, fun y hy => by rw [if_neg (by omega)]; exact hc y hy, by rw [hb]; exact forall_congr' fun y => forall_congr' fun _ => by rw [if_neg (by omega)], oc, ow, z2⟩ ?_
  clear t1 t2 t8 t9 t10 t21 t22 t23 hb hc lc oc ow B h1' h2' r1 r2 z2 cL b
  rintro t w3 ⟨t1, t2, t8, t9, t21, t22, t23, t11, t28, t29, B, x, b, is, cL, t30, hx, t10, t13, his, his1, lc, hc, hb, oc, ow, z3⟩
  have hcs := cn_succ Rs Rw i
  by_cases hxl : x < (Rs i).length
  rotate_left
  · have exl : x = (Rs i).length := by omega
    have hcn : ∀ y, y < len → (if y < x then cn Rs Rw (i + 1) y else cn Rs Rw i y) = cn Rs Rw (i + 1) y := fun y hy => by
      by_cases e : y < x
      · rw [if_pos e]
      · rw [if_neg e, hcs y, if_neg (fun h => by rcases l1 with h9 | h9 <;> omega), Nat.add_zero]
    have hb' : b = true ↔ ∀ t, t < len → cn Rs Rw (i + 1) t ≤ most := hb.trans (forall_congr' fun y => forall_congr' fun hy => by rw [hcn y hy])
    have hc' : ∀ y (hy : y < cL.length), cL[y] = (cn Rs Rw (i + 1) y : Int) := fun y hy => by rw [hc y hy, hcn y (by omega)]
    have hne : is = 1 ↔ (Rs i).length ≠ 0 ∧ Rs i ≠ Rw i := by
      rw [his1, exl]
      constructor
      · rintro ⟨y, hy, h⟩
        exact ⟨by omega, fun e => h (by rw [e])⟩
      · rintro ⟨h5, h6⟩
        refine Classical.byContradiction fun h7 => h6 (List.ext_getElem (by rcases l1 with h9 | h9 <;> omega) fun y a1 a2 => ?_)
        rw [← nth_get a1, ← nth_get a2]
        exact Classical.byContradiction fun h8 => h7 ⟨y, a1, h8⟩
    have hws := wrg_succ Rs Rw i
    have hwl := wrg_le Rs Rw i
    by_cases h1s : is = 1
    · rw [if_pos (hne.1 h1s)] at hws
      simp (maxSteps := 1000000) (disch := omega) only [WS, ↓reduceIte, Nat.reduceEqDiff, reduceCtorEq, AS, t1, t2, t8, t9, t10, t13, t21, t22, t23, t11, t28, t29, t30, decide_eq_true h1s]
      refine X_bsl (zs := [(i : Int)]) (by rfl) (by rfl) fun e1 w4 oe hB => ?_
      have B := B.trans (hB.mono B.size)
      have z3 := Nat.le_trans z3 hB.size
      have ow := ow.up hB
      have oc := oc.up hB
      simp (maxSteps := 1000000) (disch := omega) only [WS, ↓reduceIte, Nat.reduceEqDiff, reduceCtorEq, AS, t1, t2, t8, t9, t10, t21, t22, t23, t11]
      refine Ow.Xapp2 ow oe.sl z3 (by simp only [List.length_singleton, maxBytes]; omega) (by simp only [List.length_singleton]; omega) fun e2 w5 ow2 hg => ?_
      have B := hg.below B (by omega) fun b hb => by have := (ow.blk b hb).1; omega
      have oc2 : Ow w.heap.size w5 sc cL := by
        rcases hg with ⟨_, hg⟩ | ⟨_, hg⟩
        · exact oc.gr' hg fun c hc e => by have := (hbc c e).2; have := (ow.blk c hc).1; omega
        · exact oc.up hg
      have z5 : w1.heap.size ≤ w5.heap.size := by
        rcases hg with ⟨_, hg⟩ | ⟨_, hg⟩
        · exact Nat.le_trans z3 hg.size
        · exact Nat.le_trans z3 hg.size
      simp (maxSteps := 1000000) (disch := omega) only [WS, ↓reduceIte, Nat.reduceEqDiff, reduceCtorEq, AS, t1, t2, t8, t9, t10, t21, t22, t23, t11]
      exact ⟨⟨B, i + 1, b, e2, cL, rfl, by omega, rfl, rfl, hb', lc, hc', oc2, by rw [hws]; exact ow2, z5⟩, by omega⟩
    · rw [if_neg (fun h => h1s (hne.2 h)), List.append_nil] at hws
      simp (maxSteps := 1000000) (disch := omega) only [WS, ↓reduceIte, Nat.reduceEqDiff, reduceCtorEq, AS, t1, t2, t8, t9, t10, t13, t21, t22, t23, t11, t28, t29, t30, decide_eq_false h1s]
      exact ⟨⟨B, i + 1, b, sw, cL, rfl, by omega, rfl, rfl, hb', lc, hc', oc, by rw [hws]; exact ow, z3⟩, by omega⟩
  have exlen : (Rs i).length = len := l1.resolve_left fun e => by rw [e] at hxl; exact absurd hxl (Nat.not_lt_zero _)
  have h1' := h1.up B
  have h2' := h2.up B
  have r1 := (hr1 i hil).up B
  have r2 := (hr2 i i2).up B
  have ix2 : x < (Rw i).length := by omega
  have ixc : x < cL.length := by omega
  have e1 : (Rs i)[x] = nth (Rs i) x := (nth_get hxl).symm
  have e2 : (Rw i)[x] = nth (Rw i) x := (nth_get ix2).symm
  have ec : cL[x] = (cn Rs Rw i x : Int) := by rw [hc x ixc, if_neg (by omega)]
  have hcl := cn_le Rs Rw i x
  by_cases heq : nth (Rs i) x = nth (Rw i) x
  · rw [heq] at e1
    have hcx := hcs x
    rw [if_neg (fun h => h.2 heq), Nat.add_zero] at hcx
    have hif : ∀ y, (if y < x + 1 then cn Rs Rw (i + 1) y else cn Rs Rw i y) = if y < x then cn Rs Rw (i + 1) y else cn Rs Rw i y := fun y => by
      by_cases e : y = x
      · subst e; rw [if_pos (by omega), if_neg (by omega)]; exact hcx
      · by_cases e2 : y < x
        · rw [if_pos e2, if_pos (by omega)]
        · rw [if_neg e2, if_neg (by omega)]
    simp (maxSteps := 1000000) (disch := omega) only [WS, ↓reduceIte, Nat.reduceEqDiff, reduceCtorEq, AS, t1, t2, t8, t9, t10, t13, t21, t22, t23, t11, t28, t29, t30, r1.Xix hxl, r1.Xld hxl, cell_e8, e1, h2'.Xix i2, h2'.Xld i2, r2.Xix ix2, r2.Xld ix2, e2, ne_eq, not_true_eq_false, decide_false]
    refine ⟨⟨B, x + 1, b, is, cL, rfl, by omega, rfl, rfl, his, ?_, lc, fun y hy => by rw [hif]; exact hc y hy, by rw [hb]; exact forall_congr' fun y => forall_congr' fun _ => by rw [hif], oc, ow, z3⟩, by omega⟩
    rw [his1]
    exact ⟨fun ⟨y, hy, h⟩ => ⟨y, by omega, h⟩, fun ⟨y, hy, h⟩ => ⟨y, by
      by_cases e : y = x
      · exact absurd (e ▸ heq) h
      · omega, h⟩⟩
  · have hne : ((nth (Rs i) x).v.toNat : Int) ≠ ((nth (Rw i) x).v.toNat : Int) := fun e => heq (El.ext (BitVec.eq_of_toNat_eq (by omega)))
    have hcx := hcs x
    rw [if_pos ⟨by omega, heq⟩] at hcx
    have hif : ∀ y, y ≠ x → (if y < x + 1 then cn Rs Rw (i + 1) y else cn Rs Rw i y) = if y < x then cn Rs Rw (i + 1) y else cn Rs Rw i y := fun y e => by
      by_cases e2 : y < x
      · rw [if_pos e2, if_pos (by omega)]
      · rw [if_neg e2, if_neg (by omega)]
    have e9 : IntKind.i64.wrap ((cn Rs Rw i x : Int) + 1) = ((cn Rs Rw (i + 1) x : Nat) : Int) := by rw [wrap_id (by omega) (by omega), hcx]; rfl
    simp (maxSteps := 1000000) (disch := omega) only [WS, ↓reduceIte, Nat.reduceEqDiff, reduceCtorEq, AS, t1, t2, t8, t9, t10, t13, t21, t22, t23, t11, t28, t29, t30, r1.Xix hxl, r1.Xld hxl, cell_e8, e1, h2'.Xix i2, h2'.Xld i2, r2.Xix ix2, r2.Xld ix2, e2, decide_eq_true hne, oc.sl.Xix ixc, oc.sl.Xld ixc, cell_int, ec, e9]
    refine Ow.Xst oc ixc ((cn Rs Rw (i + 1) x : Nat) : Int) fun w4 oc2 hg => ?_
    have B4 := Below.app B B.size hg fun b hb => (oc.blk b hb).1
    obtain ⟨bc, hbc0, -⟩ := oc.sl.blk_lt (by rintro rfl; simp at ixc)
    have hbc1 := hbc bc hbc0
    have ow4 := ow.gr' hg fun c hc e => by rw [hbc0] at hc; cases hc; have := (ow.blk _ e).1; omega
    have z4 := Nat.le_trans z3 hg.size
    have ixc2 : x < (cL.set x ((cn Rs Rw (i + 1) x : Nat) : Int)).length := by rw [List.length_set]; exact ixc
    have ec2 : (cL.set x ((cn Rs Rw (i + 1) x : Nat) : Int))[x] = ((cn Rs Rw (i + 1) x : Nat) : Int) := List.getElem_set_self ..
    have hc2 : ∀ y (hy : y < (cL.set x ((cn Rs Rw (i + 1) x : Nat) : Int)).length), (cL.set x ((cn Rs Rw (i + 1) x : Nat) : Int))[y] = ((if y < x + 1 then cn Rs Rw (i + 1) y else cn Rs Rw i y : Nat) : Int) := fun y hy => by
      rw [List.getElem_set]
      by_cases e : y = x
      · subst e; rw [if_pos rfl, if_pos (by omega)]
      · rw [if_neg (fun e' => e e'.symm), hif y e]; exact hc y (by rw [List.length_set] at hy; exact hy)
    have hi1 : (1 : Int) = 1 ↔ ∃ y, y < x + 1 ∧ nth (Rs i) y ≠ nth (Rw i) y := ⟨fun _ => ⟨x, by omega, heq⟩, fun _ => rfl⟩
    cases b
    · simp (maxSteps := 1000000) (disch := omega) only [WS, ↓reduceIte, Nat.reduceEqDiff, reduceCtorEq, AS, t1, t2, t8, t9, t10, t21, t22, t23, t11, t28, t29, t30]
      refine ⟨⟨B4, x + 1, false, 1, _, rfl, by omega, rfl, rfl, Or.inr rfl, hi1, by rw [List.length_set]; exact lc, hc2, ⟨fun e => (nomatch e), fun h => hb.2 fun y hy => ?_⟩, oc2, ow4, z4⟩, by omega⟩
      have := h y hy
      by_cases e : y = x
      · subst e; rw [if_pos (by omega)] at this; rw [if_neg (by omega)]; omega
      · rw [hif y e] at this; exact this
    · have hb1 := hb.1 rfl
      by_cases hle : cn Rs Rw (i + 1) x ≤ most
      · have hle' : ((cn Rs Rw (i + 1) x : Nat) : Int) ≤ (most : Int) := by omega
        simp (maxSteps := 1000000) (disch := omega) only [WS, ↓reduceIte, Nat.reduceEqDiff, reduceCtorEq, AS, t1, t2, t8, t9, t10, t21, t22, t23, t11, t28, t29, t30, oc2.sl.Xix ixc2, oc2.sl.Xld ixc2, cell_int, ec2, decide_eq_true hle']
        refine ⟨⟨B4, x + 1, true, 1, _, rfl, by omega, rfl, rfl, Or.inr rfl, hi1, by rw [List.length_set]; exact lc, hc2, ⟨fun _ y hy => ?_, fun _ => rfl⟩, oc2, ow4, z4⟩, by omega⟩
        by_cases e : y = x
        · subst e; rw [if_pos (by omega)]; exact hle
        · rw [hif y e]; exact hb1 y hy
      · have hle' : ¬ ((cn Rs Rw (i + 1) x : Nat) : Int) ≤ (most : Int) := by omega
        simp (maxSteps := 1000000) (disch := omega) only [WS, ↓reduceIte, Nat.reduceEqDiff, reduceCtorEq, AS, t1, t2, t8, t9, t10, t21, t22, t23, t11, t28, t29, t30, oc2.sl.Xix ixc2, oc2.sl.Xld ixc2, cell_int, ec2, decide_eq_false hle']
        refine ⟨⟨B4, x + 1, false, 1, _, rfl, by omega, rfl, rfl, Or.inr rfl, hi1, by rw [List.length_set]; exact lc, hc2, ⟨fun e => (nomatch e), fun h => ?_⟩, oc2, ow4, z4⟩, by omega⟩
        have := h x (by omega)
        rw [if_pos (by omega)] at this
        exact absurd this hle
end Go.Proofs.Ytbaljbadlfopgaa.Fw
