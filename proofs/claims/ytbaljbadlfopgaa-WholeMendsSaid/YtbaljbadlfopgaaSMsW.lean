import Derived.Test.YtbaljbadlfopgaaGfBW
import Derived.Test.YtbaljbadlfopgaaProg
import Derived.Test.YtbaljbadlfopgaaFwTW
import Derived.Test.YtbaljbadlfopgaaFwUW
import Derived.Test.YtbaljbadlfopgaaFwPW
set_option linter.all false
/- The additive transform, step by step, over indices. Plain maths. -/
set_option linter.unusedVariables false
namespace Go.Fw
section
variable {h i : Nat}
end
end Go.Fw

/- The basis X_j of layer 13 and its values. Plain maths. -/
set_option linter.unusedVariables false
namespace Go.Fw
end Go.Fw

set_option linter.unusedVariables false
set_option linter.unusedSimpArgs false
set_option maxRecDepth 100000
set_option maxHeartbeats 1000000
namespace Go.Proofs.Ytbaljbadlfopgaa.Fw
open Go Go.Fw Go.Proofs
attribute [local irreducible] stepI
theorem follows : Try.prog.follows .mixedOrders = true := by kernel_rfl
def c_gf16_Mul : C := .seq (.ops [⟨0,some 4,none,.mov (.c (.int .u16 0)),[]⟩]) (.seq (.ops [⟨0,some 8,none,.mov (.t 0),[]⟩,⟨1,some 9,none,.cnv .u64 (.t 8),[]⟩,⟨2,some 10,none,.mov (.t 1),[]⟩,⟨3,some 11,none,.cnv .u64 (.t 10),[]⟩,⟨4,some 12,none,.call (.c (.func (.func 109) #[] #[])) [.t 9,.t 11,.c (.int .u64 65581)],[]⟩,⟨5,some 7,none,.mov (.t 12),[]⟩,⟨6,some 13,none,.ext (.t 7) 0,[]⟩,⟨7,some 14,none,.ext (.t 7) 1,[]⟩,⟨8,some 5,none,.mov (.t 13),[]⟩,⟨9,some 6,none,.mov (.t 14),[]⟩]) (.seq (.ops [⟨0,some 15,none,.mov (.t 5),[]⟩,⟨1,some 16,none,.cnv .u16 (.t 15),[]⟩,⟨2,some 4,none,.mov (.t 16),[]⟩]) .ret))
attribute [irreducible] c_gf16_Mul
theorem run_gf16_Mul {args : List Value} {w : World} {K : Value → World → Prop} (hn : args.length ≤ 17) (h : WP Try.prog c_gf16_Mul (endQ [.t 4] K) (initT args) w) : CallV Try.prog 70 args w K :=
  call_of follows Try.func70 (by kernel_rfl) (by kernel_rfl) hn h
def c_bits_Len64 : C := .seq (.ops [⟨0,some 2,none,.mov (.c (.int .i64 0)),[]⟩]) (.seq (.seq (.ops [⟨0,some 3,none,.mov (.t 0),[]⟩,⟨1,some 4,none,.bin .geq (.t 3) (.c (.int .u64 4294967296)),[]⟩]) (.ite (.t 4) (.seq (.ops [⟨0,some 5,none,.mov (.t 0),[]⟩,⟨1,some 6,none,.bin .shr (.t 5) (.c (.int .u64 32)),[]⟩,⟨2,some 0,none,.mov (.t 6),[]⟩]) (.ops [⟨0,some 2,none,.mov (.c (.int .i64 32)),[]⟩])) .skip)) (.seq (.seq (.ops [⟨0,some 7,none,.mov (.t 0),[]⟩,⟨1,some 8,none,.bin .geq (.t 7) (.c (.int .u64 65536)),[]⟩]) (.ite (.t 8) (.seq (.ops [⟨0,some 9,none,.mov (.t 0),[]⟩,⟨1,some 10,none,.bin .shr (.t 9) (.c (.int .u64 16)),[]⟩,⟨2,some 0,none,.mov (.t 10),[]⟩]) (.ops [⟨0,some 11,none,.mov (.t 2),[]⟩,⟨1,some 12,none,.bin .add (.t 11) (.c (.int .i64 16)),[]⟩,⟨2,some 2,none,.mov (.t 12),[]⟩])) .skip)) (.seq (.seq (.ops [⟨0,some 13,none,.mov (.t 0),[]⟩,⟨1,some 14,none,.bin .geq (.t 13) (.c (.int .u64 256)),[]⟩]) (.ite (.t 14) (.seq (.ops [⟨0,some 15,none,.mov (.t 0),[]⟩,⟨1,some 16,none,.bin .shr (.t 15) (.c (.int .u64 8)),[]⟩,⟨2,some 0,none,.mov (.t 16),[]⟩]) (.ops [⟨0,some 17,none,.mov (.t 2),[]⟩,⟨1,some 18,none,.bin .add (.t 17) (.c (.int .i64 8)),[]⟩,⟨2,some 2,none,.mov (.t 18),[]⟩])) .skip)) (.seq (.ops [⟨0,some 19,none,.mov (.t 2),[]⟩,⟨1,some 20,none,.mov (.t 0),[]⟩,⟨2,some 21,none,.cnv .u8 (.t 20),[]⟩,⟨3,some 22,none,.ixt (.c (.string (.mk #[0,1,2,2,3,3,3,3,4,4,4,4,4,4,4,4,5,5,5,5,5,5,5,5,5,5,5,5,5,5,5,5,6,6,6,6,6,6,6,6,6,6,6,6,6,6,6,6,6,6,6,6,6,6,6,6,6,6,6,6,6,6,6,6,7,7,7,7,7,7,7,7,7,7,7,7,7,7,7,7,7,7,7,7,7,7,7,7,7,7,7,7,7,7,7,7,7,7,7,7,7,7,7,7,7,7,7,7,7,7,7,7,7,7,7,7,7,7,7,7,7,7,7,7,7,7,7,7,8,8,8,8,8,8,8,8,8,8,8,8,8,8,8,8,8,8,8,8,8,8,8,8,8,8,8,8,8,8,8,8,8,8,8,8,8,8,8,8,8,8,8,8,8,8,8,8,8,8,8,8,8,8,8,8,8,8,8,8,8,8,8,8,8,8,8,8,8,8,8,8,8,8,8,8,8,8,8,8,8,8,8,8,8,8,8,8,8,8,8,8,8,8,8,8,8,8,8,8,8,8,8,8,8,8,8,8,8,8,8,8,8,8,8,8,8,8,8,8,8,8,8,8,8,8,8,8]))) (.t 21),[]⟩,⟨4,some 23,none,.cnv .i64 (.t 22),[]⟩,⟨5,some 24,none,.bin .add (.t 19) (.t 23),[]⟩,⟨6,some 2,none,.mov (.t 24),[]⟩]) .ret))))
attribute [irreducible] c_bits_Len64
theorem run_bits_Len64 {args : List Value} {w : World} {K : Value → World → Prop} (hn : args.length ≤ 25) (h : WP Try.prog c_bits_Len64 (endQ [.t 2] K) (initT args) w) : CallV Try.prog 105 args w K :=
  call_of follows Try.func105 (by kernel_rfl) (by kernel_rfl) hn h
def c_ring_MulMod : C := .seq (.ops [⟨0,some 6,none,.mov (.c (.int .u64 0)),[]⟩,⟨1,some 7,none,.mov (.c (.int .i64 0)),[]⟩]) (.seq (.seq (.ops [⟨0,some 8,none,.mov (.t 2),[]⟩,⟨1,some 9,none,.call (.c (.func (.func 137) #[] #[])) [.t 8,.c (.int .i64 32)],[]⟩,⟨2,some 10,none,.un .not (.t 9),[]⟩]) (.ite (.t 10) (.seq (.ops [⟨0,some 6,none,.mov (.c (.int .u64 0)),[]⟩,⟨1,some 7,none,.mov (.c (.int .i64 11)),[]⟩]) .ret) .skip)) (.seq (.ops [⟨0,some 11,none,.mov (.t 0),[]⟩,⟨1,some 12,none,.mov (.t 1),[]⟩,⟨2,some 13,none,.mov (.t 2),[]⟩,⟨3,some 14,none,.call (.c (.func (.func 138) #[] #[])) [.t 11,.t 12,.t 13],[]⟩,⟨4,some 6,none,.mov (.t 14),[]⟩,⟨5,some 7,none,.mov (.c (.int .i64 0)),[]⟩]) .ret))
attribute [irreducible] c_ring_MulMod
theorem run_ring_MulMod {args : List Value} {w : World} {K : Value → World → Prop} (hn : args.length ≤ 15) (h : WP Try.prog c_ring_MulMod (endQ [.t 6, .t 7] K) (initT args) w) : CallV Try.prog 109 args w K :=
  call_of follows Try.func109 (by kernel_rfl) (by kernel_rfl) hn h
def c_ring_isModulus : C := .seq (.ops [⟨0,some 4,none,.mov (.c (.bool false)),[]⟩]) (.seq (.ops [⟨0,some 6,none,.mov (.t 0),[]⟩,⟨1,some 7,none,.call (.c (.func (.func 156) #[] #[])) [.t 6],[]⟩,⟨2,some 5,none,.mov (.t 7),[]⟩]) (.seq (.ops [⟨0,some 8,none,.mov (.t 5),[]⟩,⟨1,some 9,none,.bin .geq (.t 8) (.c (.int .i64 1)),[]⟩,⟨2,some 10,none,.mov (.t 9),[]⟩,⟨3,some 11,(some (10,true)),.mov (.t 5),[]⟩,⟨4,some 12,(some (10,true)),.mov (.t 1),[]⟩,⟨5,some 13,(some (10,true)),.bin .leq (.t 11) (.t 12),[]⟩,⟨6,some 14,none,.pick (.t 10) (.t 13) (.c (.bool false)),[]⟩,⟨7,some 4,none,.mov (.t 14),[]⟩]) .ret))
attribute [irreducible] c_ring_isModulus
theorem run_ring_isModulus {args : List Value} {w : World} {K : Value → World → Prop} (hn : args.length ≤ 15) (h : WP Try.prog c_ring_isModulus (endQ [.t 4] K) (initT args) w) : CallV Try.prog 137 args w K :=
  call_of follows Try.func137 (by kernel_rfl) (by kernel_rfl) hn h
def c_ring_mulMod : C := .seq (.ops [⟨0,some 6,none,.mov (.c (.int .u64 0)),[]⟩]) (.seq (.ops [⟨0,some 11,none,.mov (.t 0),[]⟩,⟨1,some 12,none,.mov (.t 2),[]⟩,⟨2,some 13,none,.call (.c (.func (.func 139) #[] #[])) [.t 11,.t 12],[]⟩,⟨3,some 10,none,.mov (.t 13),[]⟩,⟨4,some 14,none,.ext (.t 10) 0,[]⟩,⟨5,some 15,none,.ext (.t 10) 1,[]⟩,⟨6,some 0,none,.mov (.t 15),[]⟩]) (.seq (.ops [⟨0,some 17,none,.mov (.t 1),[]⟩,⟨1,some 18,none,.mov (.t 2),[]⟩,⟨2,some 19,none,.call (.c (.func (.func 139) #[] #[])) [.t 17,.t 18],[]⟩,⟨3,some 16,none,.mov (.t 19),[]⟩,⟨4,some 20,none,.ext (.t 16) 0,[]⟩,⟨5,some 21,none,.ext (.t 16) 1,[]⟩,⟨6,some 1,none,.mov (.t 21),[]⟩]) (.seq (.ops [⟨0,some 22,none,.mov (.t 2),[]⟩,⟨1,some 23,none,.call (.c (.func (.func 156) #[] #[])) [.t 22],[]⟩,⟨2,some 7,none,.mov (.t 23),[]⟩]) (.seq (.ops [⟨0,some 8,none,.mov (.c (.int .u64 0)),[]⟩]) (.seq (.seq (.ops [⟨0,some 24,none,.mov (.t 7),[]⟩,⟨1,some 25,none,.bin .sub (.t 24) (.c (.int .i64 1)),[]⟩,⟨2,some 9,none,.mov (.t 25),[]⟩]) (.block 0 (.loop (.seq (.seq (.ops [⟨0,some 26,none,.mov (.t 9),[]⟩,⟨1,some 27,none,.bin .geq (.t 26) (.c (.int .i64 0)),[]⟩]) (.ite (.t 27) .skip (.exit 0))) (.seq (.block 1 (.seq (.ops [⟨0,some 30,none,.mov (.t 8),[]⟩,⟨1,some 31,none,.bin .shl (.t 30) (.c (.int .u64 1)),[]⟩,⟨2,some 8,none,.mov (.t 31),[]⟩]) (.seq (.seq (.ops [⟨0,some 32,none,.mov (.t 8),[]⟩,⟨1,some 33,none,.mov (.t 7),[]⟩,⟨2,some 34,none,.bin .shr (.t 32) (.t 33),[]⟩,⟨3,some 35,none,.bin .and (.t 34) (.c (.int .u64 1)),[]⟩,⟨4,some 36,none,.bin .eql (.t 35) (.c (.int .u64 1)),[]⟩]) (.ite (.t 36) (.ops [⟨0,some 37,none,.mov (.t 8),[]⟩,⟨1,some 38,none,.mov (.t 2),[]⟩,⟨2,some 39,none,.bin .xor (.t 37) (.t 38),[]⟩,⟨3,some 8,none,.mov (.t 39),[]⟩]) .skip)) (.seq (.ops [⟨0,some 40,none,.mov (.t 1),[]⟩,⟨1,some 41,none,.mov (.t 9),[]⟩,⟨2,some 42,none,.bin .shr (.t 40) (.t 41),[]⟩,⟨3,some 43,none,.bin .and (.t 42) (.c (.int .u64 1)),[]⟩,⟨4,some 44,none,.bin .eql (.t 43) (.c (.int .u64 1)),[]⟩]) (.ite (.t 44) (.ops [⟨0,some 45,none,.mov (.t 8),[]⟩,⟨1,some 46,none,.mov (.t 0),[]⟩,⟨2,some 47,none,.bin .xor (.t 45) (.t 46),[]⟩,⟨3,some 8,none,.mov (.t 47),[]⟩]) .skip))))) (.ops [⟨0,some 28,none,.mov (.t 9),[]⟩,⟨1,some 29,none,.bin .sub (.t 28) (.c (.int .i64 1)),[]⟩,⟨2,some 9,none,.mov (.t 29),[]⟩])))))) (.seq (.ops [⟨0,some 48,none,.mov (.t 8),[]⟩,⟨1,some 6,none,.mov (.t 48),[]⟩]) .ret))))))
attribute [irreducible] c_ring_mulMod
theorem run_ring_mulMod {args : List Value} {w : World} {K : Value → World → Prop} (hn : args.length ≤ 49) (h : WP Try.prog c_ring_mulMod (endQ [.t 6] K) (initT args) w) : CallV Try.prog 138 args w K :=
  call_of follows Try.func138 (by kernel_rfl) (by kernel_rfl) hn h
def c_ring_divMod : C := .seq (.ops [⟨0,some 4,none,.mov (.c (.int .u64 0)),[]⟩,⟨1,some 5,none,.mov (.c (.int .u64 0)),[]⟩]) (.seq (.ops [⟨0,some 8,none,.mov (.t 1),[]⟩,⟨1,some 9,none,.call (.c (.func (.func 156) #[] #[])) [.t 8],[]⟩,⟨2,some 6,none,.mov (.t 9),[]⟩]) (.block 0 (.loop (.block 1 (.seq (.ops [⟨0,some 10,none,.mov (.t 0),[]⟩,⟨1,some 11,none,.call (.c (.func (.func 156) #[] #[])) [.t 10],[]⟩,⟨2,some 12,none,.mov (.t 6),[]⟩,⟨3,some 13,none,.bin .sub (.t 11) (.t 12),[]⟩,⟨4,some 7,none,.mov (.t 13),[]⟩]) (.seq (.seq (.ops [⟨0,some 14,none,.mov (.t 7),[]⟩,⟨1,some 15,none,.bin .lss (.t 14) (.c (.int .i64 0)),[]⟩]) (.ite (.t 15) (.seq (.ops [⟨0,some 16,none,.mov (.t 4),[]⟩,⟨1,some 17,none,.mov (.t 0),[]⟩,⟨2,some 4,none,.mov (.t 16),[]⟩,⟨3,some 5,none,.mov (.t 17),[]⟩]) .ret) .skip)) (.seq (.ops [⟨0,some 18,none,.mov (.t 4),[]⟩,⟨1,some 19,none,.mov (.t 7),[]⟩,⟨2,some 20,none,.bin .shl (.c (.int .u64 1)) (.t 19),[]⟩,⟨3,some 21,none,.bin .or (.t 18) (.t 20),[]⟩,⟨4,some 4,none,.mov (.t 21),[]⟩]) (.ops [⟨0,some 22,none,.mov (.t 0),[]⟩,⟨1,some 23,none,.mov (.t 1),[]⟩,⟨2,some 24,none,.mov (.t 7),[]⟩,⟨3,some 25,none,.bin .shl (.t 23) (.t 24),[]⟩,⟨4,some 26,none,.bin .xor (.t 22) (.t 25),[]⟩,⟨5,some 0,none,.mov (.t 26),[]⟩]))))))))
attribute [irreducible] c_ring_divMod
theorem run_ring_divMod {args : List Value} {w : World} {K : Value → World → Prop} (hn : args.length ≤ 27) (h : WP Try.prog c_ring_divMod (endQ [.t 4, .t 5] K) (initT args) w) : CallV Try.prog 139 args w K :=
  call_of follows Try.func139 (by kernel_rfl) (by kernel_rfl) hn h
def c_ring_Degree : C := .seq (.ops [⟨0,some 2,none,.mov (.c (.int .i64 0)),[]⟩]) (.seq (.ops [⟨0,some 3,none,.mov (.t 0),[]⟩,⟨1,some 4,none,.call (.c (.func (.func 105) #[] #[])) [.t 3],[]⟩,⟨2,some 5,none,.bin .sub (.t 4) (.c (.int .i64 1)),[]⟩,⟨3,some 2,none,.mov (.t 5),[]⟩]) .ret)
attribute [irreducible] c_ring_Degree
theorem run_ring_Degree {args : List Value} {w : World} {K : Value → World → Prop} (hn : args.length ≤ 6) (h : WP Try.prog c_ring_Degree (endQ [.t 2] K) (initT args) w) : CallV Try.prog 156 args w K :=
  call_of follows Try.func156 (by kernel_rfl) (by kernel_rfl) hn h
end Go.Proofs.Ytbaljbadlfopgaa.Fw
namespace Go.Proofs.Ytbaljbadlfopgaa.Fw
open Go Go.Fw Go.Proofs Go.RowKit

theorem shr32 (x : Nat) : shrV .u64 (x : Int) 32 = ((x >>> 32 : Nat) : Int) := shr_nat .u64 x 32 (by decide)
theorem shr16 (x : Nat) : shrV .u64 (x : Int) 16 = ((x >>> 16 : Nat) : Int) := shr_nat .u64 x 16 (by decide)
theorem shr8 (x : Nat) : shrV .u64 (x : Int) 8 = ((x >>> 8 : Nat) : Int) := shr_nat .u64 x 8 (by decide)
theorem blen_cut (x k : Nat) (h : 2 ^ k ≤ x) : blen x = k + blen (x >>> k) := by
  have := blen_le h
  rw [blen_shr (by omega)]; omega
theorem cut_lt (x k m : Nat) (h : x < 2 ^ (m + k)) : x >>> k < 2 ^ m := by
  rw [Nat.shiftRight_eq_div_pow, Nat.div_lt_iff_lt_mul (Nat.two_pow_pos k), ← Nat.pow_add]; exact h
theorem len_tab (i : Nat) (h : i < 256) : ((#[0, 1, 2, 2, 3, 3, 3, 3, 4, 4, 4, 4, 4, 4, 4, 4, 5, 5, 5, 5, 5, 5, 5, 5, 5, 5, 5, 5, 5, 5, 5, 5, 6, 6, 6, 6, 6, 6, 6, 6, 6, 6, 6, 6, 6, 6, 6, 6, 6, 6, 6, 6, 6, 6, 6, 6, 6, 6, 6, 6, 6, 6, 6, 6, 7, 7, 7, 7, 7, 7, 7, 7, 7, 7, 7, 7, 7, 7, 7, 7, 7, 7, 7, 7, 7, 7, 7, 7, 7, 7, 7, 7, 7, 7, 7, 7, 7, 7, 7, 7, 7, 7, 7, 7, 7, 7, 7, 7, 7, 7, 7, 7, 7, 7, 7, 7, 7, 7, 7, 7, 7, 7, 7, 7, 7, 7, 7, 7, 8, 8, 8, 8, 8, 8, 8, 8, 8, 8, 8, 8, 8, 8, 8, 8, 8, 8, 8, 8, 8, 8, 8, 8, 8, 8, 8, 8, 8, 8, 8, 8, 8, 8, 8, 8, 8, 8, 8, 8, 8, 8, 8, 8, 8, 8, 8, 8, 8, 8, 8, 8, 8, 8, 8, 8, 8, 8, 8, 8, 8, 8, 8, 8, 8, 8, 8, 8, 8, 8, 8, 8, 8, 8, 8, 8, 8, 8, 8, 8, 8, 8, 8, 8, 8, 8, 8, 8, 8, 8, 8, 8, 8, 8, 8, 8, 8, 8, 8, 8, 8, 8, 8, 8, 8, 8, 8, 8, 8, 8, 8, 8, 8, 8, 8, 8, 8, 8, 8, 8, 8, 8, 8, 8, 8, 8, 8, 8] : Array UInt8).getD i 0).toNat = blen i := by
  have key : ∀ i, i < 256 → ((#[0, 1, 2, 2, 3, 3, 3, 3, 4, 4, 4, 4, 4, 4, 4, 4, 5, 5, 5, 5, 5, 5, 5, 5, 5, 5, 5, 5, 5, 5, 5, 5, 6, 6, 6, 6, 6, 6, 6, 6, 6, 6, 6, 6, 6, 6, 6, 6, 6, 6, 6, 6, 6, 6, 6, 6, 6, 6, 6, 6, 6, 6, 6, 6, 7, 7, 7, 7, 7, 7, 7, 7, 7, 7, 7, 7, 7, 7, 7, 7, 7, 7, 7, 7, 7, 7, 7, 7, 7, 7, 7, 7, 7, 7, 7, 7, 7, 7, 7, 7, 7, 7, 7, 7, 7, 7, 7, 7, 7, 7, 7, 7, 7, 7, 7, 7, 7, 7, 7, 7, 7, 7, 7, 7, 7, 7, 7, 7, 8, 8, 8, 8, 8, 8, 8, 8, 8, 8, 8, 8, 8, 8, 8, 8, 8, 8, 8, 8, 8, 8, 8, 8, 8, 8, 8, 8, 8, 8, 8, 8, 8, 8, 8, 8, 8, 8, 8, 8, 8, 8, 8, 8, 8, 8, 8, 8, 8, 8, 8, 8, 8, 8, 8, 8, 8, 8, 8, 8, 8, 8, 8, 8, 8, 8, 8, 8, 8, 8, 8, 8, 8, 8, 8, 8, 8, 8, 8, 8, 8, 8, 8, 8, 8, 8, 8, 8, 8, 8, 8, 8, 8, 8, 8, 8, 8, 8, 8, 8, 8, 8, 8, 8, 8, 8, 8, 8, 8, 8, 8, 8, 8, 8, 8, 8, 8, 8, 8, 8, 8, 8, 8, 8, 8, 8, 8, 8] : Array UInt8).getD i 0).toNat = blen i := by decide +kernel
  exact key i h
theorem bits_Len64_spec (w : World) (x : Nat) (hx : x < 18446744073709551616) : CallV Try.prog 105 [.int .u64 (x : Int)] w fun v w' => v = .int .i64 (blen x : Int) ∧ w' = w := by
  have fin : ∀ (y n : Nat), y < 256 → n ≤ 56 → blen x = n + blen y → ∀ (i : Nat), i = blen y → IntKind.i64.wrap ((n : Int) + IntKind.i64.wrap (i : Int)) = (blen x : Int) := by
    intro y n hy hn he i hi
    have : blen y ≤ 8 := blen_lt (by simpa using hy)
    rw [wrap_64 i (by omega), show (n : Int) + (i : Int) = ((n + i : Nat) : Int) by omega, wrap_64 _ (by omega), he, hi]
  refine run_bits_Len64 (by simp) ?_
  by_cases h1 : 4294967296 ≤ x
  · have d1 : decide ((4294967296 : Int) ≤ ((x : Nat) : Int)) = true := decide_eq_true (by omega)
    have e1 := blen_cut x 32 (by simpa using h1)
    have l1 : (x >>> 32) < 4294967296 := cut_lt x 32 32 (by simp; omega)
    by_cases h2 : 65536 ≤ (x >>> 32)
    · have d2 : decide ((65536 : Int) ≤ (((x >>> 32) : Nat) : Int)) = true := decide_eq_true (by omega)
      have e2 := blen_cut (x >>> 32) 16 (by simpa using h2)
      have l2 : ((x >>> 32) >>> 16) < 65536 := cut_lt (x >>> 32) 16 16 (by simp; omega)
      by_cases h3 : 256 ≤ ((x >>> 32) >>> 16)
      · have d3 : decide ((256 : Int) ≤ ((((x >>> 32) >>> 16) : Nat) : Int)) = true := decide_eq_true (by omega)
        have e3 := blen_cut ((x >>> 32) >>> 16) 8 (by simpa using h3)
        have l3 : (((x >>> 32) >>> 16) >>> 8) < 256 := cut_lt ((x >>> 32) >>> 16) 8 8 (by simp; omega)
        have l4 : (((x >>> 32) >>> 16) >>> 8) < 256 := by omega
        simp only [c_bits_Len64, WS, ↓reduceIte, Nat.reduceEqDiff, reduceCtorEq, X_shr, Int.reduceLE, shr32, shr16, shr8, d1, d2, d3, wrap_u8 _ l4, Int.zero_add]
        rw [X_ixt (by exact l4)]
        simp only [WS, ↓reduceIte, Nat.reduceEqDiff, reduceCtorEq]
        try simp only [show IntKind.i64.wrap (32 + 16) = 48 from rfl, show IntKind.i64.wrap (32 + 8) = 40 from rfl, show IntKind.i64.wrap (48 + 8) = 56 from rfl, show IntKind.i64.wrap (0 + 16) = 16 from rfl, show IntKind.i64.wrap (0 + 8) = 8 from rfl, show IntKind.i64.wrap (16 + 8) = 24 from rfl, show IntKind.i64.wrap 16 = 16 from rfl, show IntKind.i64.wrap 8 = 8 from rfl]
        exact congrArg (Value.int IntKind.i64) (fin _ 56 l4 (by omega) (by omega) _ (len_tab _ l4))
      · have d3 : decide ((256 : Int) ≤ ((((x >>> 32) >>> 16) : Nat) : Int)) = false := decide_eq_false (by omega)
        have l4 : ((x >>> 32) >>> 16) < 256 := by omega
        simp only [c_bits_Len64, WS, ↓reduceIte, Nat.reduceEqDiff, reduceCtorEq, X_shr, Int.reduceLE, shr32, shr16, shr8, d1, d2, d3, wrap_u8 _ l4, Int.zero_add]
        rw [X_ixt (by exact l4)]
        simp only [WS, ↓reduceIte, Nat.reduceEqDiff, reduceCtorEq]
        try simp only [show IntKind.i64.wrap (32 + 16) = 48 from rfl, show IntKind.i64.wrap (32 + 8) = 40 from rfl, show IntKind.i64.wrap (48 + 8) = 56 from rfl, show IntKind.i64.wrap (0 + 16) = 16 from rfl, show IntKind.i64.wrap (0 + 8) = 8 from rfl, show IntKind.i64.wrap (16 + 8) = 24 from rfl, show IntKind.i64.wrap 16 = 16 from rfl, show IntKind.i64.wrap 8 = 8 from rfl]
        exact congrArg (Value.int IntKind.i64) (fin _ 48 l4 (by omega) (by omega) _ (len_tab _ l4))
    · have d2 : decide ((65536 : Int) ≤ (((x >>> 32) : Nat) : Int)) = false := decide_eq_false (by omega)
      by_cases h3 : 256 ≤ (x >>> 32)
      · have d3 : decide ((256 : Int) ≤ (((x >>> 32) : Nat) : Int)) = true := decide_eq_true (by omega)
        have e3 := blen_cut (x >>> 32) 8 (by simpa using h3)
        have l3 : ((x >>> 32) >>> 8) < 256 := cut_lt (x >>> 32) 8 8 (by simp; omega)
        have l4 : ((x >>> 32) >>> 8) < 256 := by omega
        simp only [c_bits_Len64, WS, ↓reduceIte, Nat.reduceEqDiff, reduceCtorEq, X_shr, Int.reduceLE, shr32, shr16, shr8, d1, d2, d3, wrap_u8 _ l4, Int.zero_add]
        rw [X_ixt (by exact l4)]
        simp only [WS, ↓reduceIte, Nat.reduceEqDiff, reduceCtorEq]
        try simp only [show IntKind.i64.wrap (32 + 16) = 48 from rfl, show IntKind.i64.wrap (32 + 8) = 40 from rfl, show IntKind.i64.wrap (48 + 8) = 56 from rfl, show IntKind.i64.wrap (0 + 16) = 16 from rfl, show IntKind.i64.wrap (0 + 8) = 8 from rfl, show IntKind.i64.wrap (16 + 8) = 24 from rfl, show IntKind.i64.wrap 16 = 16 from rfl, show IntKind.i64.wrap 8 = 8 from rfl]
        exact congrArg (Value.int IntKind.i64) (fin _ 40 l4 (by omega) (by omega) _ (len_tab _ l4))
      · have d3 : decide ((256 : Int) ≤ (((x >>> 32) : Nat) : Int)) = false := decide_eq_false (by omega)
        have l4 : (x >>> 32) < 256 := by omega
        simp only [c_bits_Len64, WS, ↓reduceIte, Nat.reduceEqDiff, reduceCtorEq, X_shr, Int.reduceLE, shr32, shr16, shr8, d1, d2, d3, wrap_u8 _ l4, Int.zero_add]
        rw [X_ixt (by exact l4)]
        simp only [WS, ↓reduceIte, Nat.reduceEqDiff, reduceCtorEq]
        try simp only [show IntKind.i64.wrap (32 + 16) = 48 from rfl, show IntKind.i64.wrap (32 + 8) = 40 from rfl, show IntKind.i64.wrap (48 + 8) = 56 from rfl, show IntKind.i64.wrap (0 + 16) = 16 from rfl, show IntKind.i64.wrap (0 + 8) = 8 from rfl, show IntKind.i64.wrap (16 + 8) = 24 from rfl, show IntKind.i64.wrap 16 = 16 from rfl, show IntKind.i64.wrap 8 = 8 from rfl]
        exact congrArg (Value.int IntKind.i64) (fin _ 32 l4 (by omega) (by omega) _ (len_tab _ l4))
  · have d1 : decide ((4294967296 : Int) ≤ ((x : Nat) : Int)) = false := decide_eq_false (by omega)
    by_cases h2 : 65536 ≤ x
    · have d2 : decide ((65536 : Int) ≤ ((x : Nat) : Int)) = true := decide_eq_true (by omega)
      have e2 := blen_cut x 16 (by simpa using h2)
      have l2 : (x >>> 16) < 65536 := cut_lt x 16 16 (by simp; omega)
      by_cases h3 : 256 ≤ (x >>> 16)
      · have d3 : decide ((256 : Int) ≤ (((x >>> 16) : Nat) : Int)) = true := decide_eq_true (by omega)
        have e3 := blen_cut (x >>> 16) 8 (by simpa using h3)
        have l3 : ((x >>> 16) >>> 8) < 256 := cut_lt (x >>> 16) 8 8 (by simp; omega)
        have l4 : ((x >>> 16) >>> 8) < 256 := by omega
        simp only [c_bits_Len64, WS, ↓reduceIte, Nat.reduceEqDiff, reduceCtorEq, X_shr, Int.reduceLE, shr32, shr16, shr8, d1, d2, d3, wrap_u8 _ l4, Int.zero_add]
        rw [X_ixt (by exact l4)]
        simp only [WS, ↓reduceIte, Nat.reduceEqDiff, reduceCtorEq]
        try simp only [show IntKind.i64.wrap (32 + 16) = 48 from rfl, show IntKind.i64.wrap (32 + 8) = 40 from rfl, show IntKind.i64.wrap (48 + 8) = 56 from rfl, show IntKind.i64.wrap (0 + 16) = 16 from rfl, show IntKind.i64.wrap (0 + 8) = 8 from rfl, show IntKind.i64.wrap (16 + 8) = 24 from rfl, show IntKind.i64.wrap 16 = 16 from rfl, show IntKind.i64.wrap 8 = 8 from rfl]
        exact congrArg (Value.int IntKind.i64) (fin _ 24 l4 (by omega) (by omega) _ (len_tab _ l4))
      · have d3 : decide ((256 : Int) ≤ (((x >>> 16) : Nat) : Int)) = false := decide_eq_false (by omega)
        have l4 : (x >>> 16) < 256 := by omega
        simp only [c_bits_Len64, WS, ↓reduceIte, Nat.reduceEqDiff, reduceCtorEq, X_shr, Int.reduceLE, shr32, shr16, shr8, d1, d2, d3, wrap_u8 _ l4, Int.zero_add]
        rw [X_ixt (by exact l4)]
        simp only [WS, ↓reduceIte, Nat.reduceEqDiff, reduceCtorEq]
        try simp only [show IntKind.i64.wrap (32 + 16) = 48 from rfl, show IntKind.i64.wrap (32 + 8) = 40 from rfl, show IntKind.i64.wrap (48 + 8) = 56 from rfl, show IntKind.i64.wrap (0 + 16) = 16 from rfl, show IntKind.i64.wrap (0 + 8) = 8 from rfl, show IntKind.i64.wrap (16 + 8) = 24 from rfl, show IntKind.i64.wrap 16 = 16 from rfl, show IntKind.i64.wrap 8 = 8 from rfl]
        exact congrArg (Value.int IntKind.i64) (fin _ 16 l4 (by omega) (by omega) _ (len_tab _ l4))
    · have d2 : decide ((65536 : Int) ≤ ((x : Nat) : Int)) = false := decide_eq_false (by omega)
      by_cases h3 : 256 ≤ x
      · have d3 : decide ((256 : Int) ≤ ((x : Nat) : Int)) = true := decide_eq_true (by omega)
        have e3 := blen_cut x 8 (by simpa using h3)
        have l3 : (x >>> 8) < 256 := cut_lt x 8 8 (by simp; omega)
        have l4 : (x >>> 8) < 256 := by omega
        simp only [c_bits_Len64, WS, ↓reduceIte, Nat.reduceEqDiff, reduceCtorEq, X_shr, Int.reduceLE, shr32, shr16, shr8, d1, d2, d3, wrap_u8 _ l4, Int.zero_add]
        rw [X_ixt (by exact l4)]
        simp only [WS, ↓reduceIte, Nat.reduceEqDiff, reduceCtorEq]
        try simp only [show IntKind.i64.wrap (32 + 16) = 48 from rfl, show IntKind.i64.wrap (32 + 8) = 40 from rfl, show IntKind.i64.wrap (48 + 8) = 56 from rfl, show IntKind.i64.wrap (0 + 16) = 16 from rfl, show IntKind.i64.wrap (0 + 8) = 8 from rfl, show IntKind.i64.wrap (16 + 8) = 24 from rfl, show IntKind.i64.wrap 16 = 16 from rfl, show IntKind.i64.wrap 8 = 8 from rfl]
        exact congrArg (Value.int IntKind.i64) (fin _ 8 l4 (by omega) (by omega) _ (len_tab _ l4))
      · have d3 : decide ((256 : Int) ≤ ((x : Nat) : Int)) = false := decide_eq_false (by omega)
        have l4 : x < 256 := by omega
        simp only [c_bits_Len64, WS, ↓reduceIte, Nat.reduceEqDiff, reduceCtorEq, X_shr, Int.reduceLE, shr32, shr16, shr8, d1, d2, d3, wrap_u8 _ l4, Int.zero_add]
        rw [X_ixt (by exact l4)]
        simp only [WS, ↓reduceIte, Nat.reduceEqDiff, reduceCtorEq]
        try simp only [show IntKind.i64.wrap (32 + 16) = 48 from rfl, show IntKind.i64.wrap (32 + 8) = 40 from rfl, show IntKind.i64.wrap (48 + 8) = 56 from rfl, show IntKind.i64.wrap (0 + 16) = 16 from rfl, show IntKind.i64.wrap (0 + 8) = 8 from rfl, show IntKind.i64.wrap (16 + 8) = 24 from rfl, show IntKind.i64.wrap 16 = 16 from rfl, show IntKind.i64.wrap 8 = 8 from rfl]
        exact congrArg (Value.int IntKind.i64) (fin _ 0 l4 (by omega) (by omega) _ (len_tab _ l4))
theorem ring_Degree_spec (w : World) (x : Nat) (hx : x < 18446744073709551616) : CallV Try.prog 156 [.int .u64 (x : Int)] w fun v w' => v = .int .i64 ((blen x : Int) - 1) ∧ w' = w := by
  have hb := blen_lt (m := 64) (n := x) (by simpa using hx)
  refine run_ring_Degree (by simp) ?_
  simp only [c_ring_Degree, WS, ↓reduceIte, Nat.reduceEqDiff, reduceCtorEq]
  refine X_call0 ((bits_Len64_spec w x hx).mono ?_)
  rintro v w' ⟨rfl, rfl⟩
  simp only [WS, ↓reduceIte, Nat.reduceEqDiff, reduceCtorEq]
  rw [wrap_id (by omega) (by omega)]
theorem ring_isModulus_spec (w : World) (x m : Nat) (hx : x < 18446744073709551616) (hm : m < 100) : CallV Try.prog 137 [.int .u64 (x : Int), .int .i64 (m : Int)] w fun v w' => v = .bool (decide (2 ≤ blen x ∧ blen x ≤ m + 1)) ∧ w' = w := by
  refine run_ring_isModulus (by simp) ?_
  simp only [c_ring_isModulus, WS, ↓reduceIte, Nat.reduceEqDiff, reduceCtorEq]
  refine X_call0 ((ring_Degree_spec w x hx).mono ?_)
  rintro v w' ⟨rfl, rfl⟩
  by_cases h1 : 2 ≤ blen x
  · have d1 : decide ((1 : Int) ≤ (blen x : Int) - 1) = true := decide_eq_true (by omega)
    have d2 : decide ((blen x : Int) - 1 ≤ (m : Int)) = decide (blen x ≤ m + 1) := decide_eq_decide.2 (by omega)
    simp only [WS, ↓reduceIte, Nat.reduceEqDiff, reduceCtorEq, d1, d2, h1]
  · have d1 : decide ((1 : Int) ≤ (blen x : Int) - 1) = false := decide_eq_false (by omega)
    simp only [WS, ↓reduceIte, Nat.reduceEqDiff, reduceCtorEq, d1, h1, false_and]
/-- Division of polynomials over GF(2): nothing to do where the degree is smaller. -/
theorem ring_divMod_small (w : World) (x p : Nat) (hx : x < 18446744073709551616) (hp : p < 18446744073709551616) (h : blen x < blen p) : CallV Try.prog 139 [.int .u64 (x : Int), .int .u64 (p : Int)] w fun v w' => v = .tuple #[.int .u64 0, .int .u64 (x : Int)] ∧ w' = w := by
  have hb := blen_lt (m := 64) (n := x) (by simpa using hx)
  have hbp := blen_lt (m := 64) (n := p) (by simpa using hp)
  refine run_ring_divMod (by simp) ?_
  simp only [c_ring_divMod, WS, ↓reduceIte, Nat.reduceEqDiff, reduceCtorEq]
  refine X_call0 ((ring_Degree_spec w p hp).mono ?_)
  rintro v w' ⟨rfl, rfl⟩
  simp only [WS, ↓reduceIte, Nat.reduceEqDiff, reduceCtorEq]
  refine loop_of (fun t w => w = w' ∧ t 0 = .int .u64 (x : Int) ∧ t 1 = .int .u64 (p : Int) ∧ t 4 = .int .u64 0 ∧ t 6 = .int .i64 ((blen p : Int) - 1)) (fun _ _ => 0) ⟨rfl, rfl, rfl, rfl, rfl⟩ ?_
  rintro t w ⟨rfl, h0, h1, h4, h6⟩
  simp only [WS, ↓reduceIte, Nat.reduceEqDiff, reduceCtorEq, h0, h1, h4, h6]
  refine X_call0 ((ring_Degree_spec w x hx).mono ?_)
  rintro v w' ⟨rfl, rfl⟩
  have e : IntKind.i64.wrap ((blen x : Int) - 1 - ((blen p : Int) - 1)) = (blen x : Int) - (blen p : Int) := by rw [wrap_id (by omega) (by omega)]; omega
  have d1 : decide ((blen x : Int) - (blen p : Int) < 0) = true := decide_eq_true (by omega)
  simp only [WS, ↓reduceIte, Nat.reduceEqDiff, reduceCtorEq, h0, h1, h4, h6, e, d1]
theorem and1_u64 (a m : Nat) (ha : a < 2 ^ 64) (hm : m ≤ 64) : bitsOp .and .u64 (shrV .u64 (a : Int) (m : Int)) 1 = if a.testBit m then 1 else 0 := by
  rw [shr_nat .u64 a m hm]
  have h1 : a >>> m ≤ a := by rw [Nat.shiftRight_eq_div_pow]; exact Nat.div_le_self _ _
  have := bits_and fits_u64 (a := a >>> m) (b := 1) (by omega) (by decide)
  rw [and_one_shr] at this
  rw [show (1 : Int) = ((1 : Nat) : Int) from rfl, this]
  split <;> rfl
theorem mx16_bit (s : BitVec 16) : (s.toNat <<< 1).testBit 16 = s.msb := by
  rw [Nat.testBit_shiftLeft]
  simp [BitVec.msb_eq_getLsbD_last, BitVec.getLsbD]
theorem mx16_val (s : BitVec 16) : (if s.msb then (s.toNat <<< 1) ^^^ 65581 else s.toNat <<< 1) = (mx r16 s).toNat := by
  have hs := s.isLt
  unfold mx
  have hm : s.msb = decide (32768 ≤ s.toNat) := by rw [BitVec.msb_eq_decide]
  have e0 : s.toNat <<< 1 = 2 * s.toNat := by rw [Nat.shiftLeft_eq]; omega
  rw [e0]
  by_cases h : 32768 ≤ s.toNat
  · rw [hm, decide_eq_true h, if_pos rfl, if_pos rfl, BitVec.toNat_xor, BitVec.toNat_shiftLeft, e0]
    have e1 : (2 * s.toNat ^^^ 65581) / 2 ^ 16 = 0 := by
      rw [← Nat.shiftRight_eq_div_pow, Nat.shiftRight_xor_distrib, Nat.shiftRight_eq_div_pow, Nat.shiftRight_eq_div_pow, show 2 * s.toNat / 2 ^ 16 = 1 by omega]; rfl
    have e2 : (2 * s.toNat ^^^ 65581) % 2 ^ 16 = (2 * s.toNat % 2 ^ 16) ^^^ 45 := by rw [Nat.xor_mod_two_pow]
    have e3 : r16.toNat = 45 := rfl
    rw [e3, ← e2]
    omega
  · rw [hm, decide_eq_false h]
    simp only [Bool.false_eq_true, if_false]
    rw [BitVec.toNat_shiftLeft, e0]
    omega
theorem ring_mulMod_spec (w : World) (a b : El 16) : CallV Try.prog 138 [.int .u64 (a.v.toNat : Int), .int .u64 (b.v.toNat : Int), .int .u64 65581] w fun v w' => v = .int .u64 ((a * b).v.toNat : Int) ∧ w' = w := by
  have ha := a.v.isLt
  have hb := b.v.isLt
  have hp : blen 65581 = 17 := by decide +kernel
  have hs : ∀ x : El 16, blen x.v.toNat < blen 65581 := fun x => by have := blen_lt x.v.isLt; omega
  refine run_ring_mulMod (by simp) ?_
  simp only [c_ring_mulMod, WS, ↓reduceIte, Nat.reduceEqDiff, reduceCtorEq]
  refine X_call0 ((ring_divMod_small w a.v.toNat 65581 (by omega) (by decide) (hs a)).mono ?_)
  rintro v w' ⟨rfl, rfl⟩
  simp only [WS, ↓reduceIte, Nat.reduceEqDiff, reduceCtorEq]
  refine X_call0 ((ring_divMod_small w' b.v.toNat 65581 (by omega) (by decide) (hs b)).mono ?_)
  rintro v w ⟨rfl, rfl⟩
  simp only [WS, ↓reduceIte, Nat.reduceEqDiff, reduceCtorEq]
  refine X_call0 ((ring_Degree_spec w 65581 (by decide)).mono ?_)
  rintro v w' ⟨rfl, rfl⟩
  rw [hp]
  simp only [WS, ↓reduceIte, Nat.reduceEqDiff, reduceCtorEq]
  refine loop_of (fun t w => w = w' ∧ t 0 = .int .u64 (a.v.toNat : Int) ∧ t 1 = .int .u64 (b.v.toNat : Int) ∧ t 2 = .int .u64 65581 ∧ t 7 = .int .i64 16 ∧ ∃ (m : Nat) (s : BitVec 16), m ≤ 16 ∧ t 8 = .int .u64 (s.toNat : Int) ∧ t 9 = .int .i64 ((m : Int) - 1) ∧ horner r16 a.v b.v m s = (a * b).v) (fun t _ => (toI (t 9) + 1).toNat) ⟨rfl, rfl, rfl, rfl, rfl, 16, 0, by omega, rfl, rfl, horner_mul r16 a.v b.v⟩ ?_
  rintro t w ⟨rfl, h0, h1, h2, h7, m, s, hm, h8, h9, hh⟩
  rcases Nat.eq_zero_or_pos m with rfl | hpos
  · have d1 : decide ((0 : Int) ≤ ((0 : Nat) : Int) - 1) = false := by decide
    simp only [WS, ↓reduceIte, Nat.reduceEqDiff, reduceCtorEq, h8, h9, d1]
    rw [← hh]; rfl
  · obtain ⟨m, rfl⟩ : ∃ k, m = k + 1 := ⟨m - 1, by omega⟩
    have e1 : ((m + 1 : Nat) : Int) - 1 = (m : Int) := by omega
    rw [e1] at h9
    have hs := s.isLt
    have d1 : decide ((0 : Int) ≤ (m : Int)) = true := by simp
    have s1 : shlV .u64 (s.toNat : Int) 1 = ((s.toNat <<< 1 : Nat) : Int) := shl_nat fits_u64 s.toNat 1 (by decide) (by omega)
    have e2 : s.toNat <<< 1 = 2 * s.toNat := by rw [Nat.shiftLeft_eq]; omega
    have t1 : bitsOp .and .u64 (shrV .u64 ((s.toNat <<< 1 : Nat) : Int) 16) 1 = if (s.toNat <<< 1).testBit 16 then 1 else 0 := and1_u64 (s.toNat <<< 1) 16 (by omega) (by decide)
    rw [mx16_bit] at t1
    have t2 := and1_u64 b.v.toNat m (by omega) (by omega)
    have hbit : b.v.toNat.testBit m = b.v.getLsbD m := BitVec.testBit_toNat b.v
    rw [hbit] at t2
    have x1 : bitsOp .xor .u64 ((s.toNat <<< 1 : Nat) : Int) 65581 = (((s.toNat <<< 1) ^^^ 65581 : Nat) : Int) := bits_xor fits_u64 (by omega) (by decide)
    have v1 := mx16_val s
    have x2 : ∀ y : BitVec 16, bitsOp .xor .u64 (y.toNat : Int) (a.v.toNat : Int) = ((y ^^^ a.v).toNat : Int) := fun y => by
      have := y.isLt
      rw [bits_xor fits_u64 (by omega) (by omega), BitVec.toNat_xor]
    simp only [horner] at hh
    have w1 : IntKind.i64.wrap ((m : Int) - 1) = (m : Int) - 1 := wrap_id (by omega) (by omega)
    have m1 : (((m : Int) - 1) + 1).toNat < ((m : Int) + 1).toNat := by omega
    cases hmsb : s.msb <;> cases hbm : b.v.getLsbD m <;> simp only [hmsb, hbm, if_true, if_false, Bool.false_eq_true] at t1 t2 v1 hh
    · simp only [WS, ↓reduceIte, Nat.reduceEqDiff, reduceCtorEq, X_shl, X_shr, Int.reduceLE, Int.natCast_nonneg, h0, h1, h2, h7, h8, h9, d1, s1, t1, t2, Int.reduceEq, w1, toI_int]
      refine ⟨⟨m, mx r16 s, by omega, by rw [← v1], rfl, ?_⟩, m1⟩
      rw [← hh]; simp [sel]
    · rw [v1] at t1
      simp only [WS, ↓reduceIte, Nat.reduceEqDiff, reduceCtorEq, X_shl, X_shr, Int.reduceLE, Int.natCast_nonneg, h0, h1, h2, h7, h8, h9, d1, s1, t1, t2, Int.reduceEq, v1, x2, w1, toI_int]
      exact ⟨⟨m, mx r16 s ^^^ a.v, by omega, rfl, rfl, by rw [← hh]; simp [sel]⟩, m1⟩
    · simp only [WS, ↓reduceIte, Nat.reduceEqDiff, reduceCtorEq, X_shl, X_shr, Int.reduceLE, Int.natCast_nonneg, h0, h1, h2, h7, h8, h9, d1, s1, t1, t2, Int.reduceEq, x1, v1, w1, toI_int]
      exact ⟨⟨m, mx r16 s, by omega, rfl, rfl, by rw [← hh]; simp [sel]⟩, m1⟩
    · simp only [WS, ↓reduceIte, Nat.reduceEqDiff, reduceCtorEq, X_shl, X_shr, Int.reduceLE, Int.natCast_nonneg, h0, h1, h2, h7, h8, h9, d1, s1, t1, t2, Int.reduceEq, x1, v1, x2, w1, toI_int]
      exact ⟨⟨m, mx r16 s ^^^ a.v, by omega, rfl, rfl, by rw [← hh]; simp [sel]⟩, m1⟩
theorem ring_MulMod_spec (w : World) (a b : El 16) : CallV Try.prog 109 [.int .u64 (a.v.toNat : Int), .int .u64 (b.v.toNat : Int), .int .u64 65581] w fun v w' => v = .tuple #[.int .u64 ((a * b).v.toNat : Int), .int .i64 0] ∧ w' = w := by
  have hp : blen 65581 = 17 := by decide +kernel
  refine run_ring_MulMod (by simp) ?_
  simp only [c_ring_MulMod, WS, ↓reduceIte, Nat.reduceEqDiff, reduceCtorEq]
  refine X_call0 ((ring_isModulus_spec w 65581 32 (by decide) (by decide)).mono ?_)
  rintro v w' ⟨rfl, rfl⟩
  rw [hp]
  simp only [WS, ↓reduceIte, Nat.reduceEqDiff, reduceCtorEq, show decide (2 ≤ 17 ∧ 17 ≤ 32 + 1) = true from rfl]
  refine X_call0 ((ring_mulMod_spec w' a b).mono ?_)
  rintro v w ⟨rfl, rfl⟩
  simp only [WS, ↓reduceIte, Nat.reduceEqDiff, reduceCtorEq]
theorem gf16_Mul_spec (w : World) (a b : El 16) : CallV Try.prog 70 [.int .u16 (a.v.toNat : Int), .int .u16 (b.v.toNat : Int)] w fun v w' => v = .int .u16 ((a * b).v.toNat : Int) ∧ w' = w := by
  have ha := a.v.isLt
  have hb := b.v.isLt
  have hab := (a * b).v.isLt
  refine run_gf16_Mul (by simp) ?_
  simp only [c_gf16_Mul, WS, ↓reduceIte, Nat.reduceEqDiff, reduceCtorEq, wrap_u64 _ (show a.v.toNat < 18446744073709551616 by omega), wrap_u64 _ (show b.v.toNat < 18446744073709551616 by omega)]
  refine X_call0 ((ring_MulMod_spec w a b).mono ?_)
  rintro v w' ⟨rfl, rfl⟩
  simp only [WS, ↓reduceIte, Nat.reduceEqDiff, reduceCtorEq, wrap_u16 _ hab]
end Go.Proofs.Ytbaljbadlfopgaa.Fw

/- Numbers as polynomials over GF(2), and what they are in the field. Plain maths. -/
set_option linter.unusedVariables false
namespace Go.Fw
theorem bmul_mx {n : Nat} (r a b : BitVec n) : bmul r (mx r a) b = mx r (bmul r a b) := by
  have hs : ∀ (f : Nat → BitVec n) m, mx r (bsum f m) = bsum (fun i => mx r (f i)) m := by
    intro f m
    induction m with
    | zero => exact mx_zero r
    | succ m ih => simp only [bsum, mx_xor, ih]
  unfold bmul
  rw [hs]
  refine bsum_congr n fun i _ => ?_
  rw [pw_mx]
  cases b.getLsbD i
  · exact (mx_zero r).symm
  · rfl
/-- A number modulo the polynomial. -/
def ph (n : Nat) : BitVec 16 := if h : n = 0 then 0 else mx r16 (ph (n / 2)) ^^^ BitVec.ofNat 16 (n % 2)
termination_by n
decreasing_by omega
theorem ph_zero : ph 0 = 0 := by unfold ph; rfl
theorem ph_step (n : Nat) : ph n = mx r16 (ph (n / 2)) ^^^ BitVec.ofNat 16 (n % 2) := by
  by_cases h : n = 0
  · subst h; rw [show 0 / 2 = 0 from rfl, ph_zero, mx_zero]; rfl
  · rw [ph, dif_neg h]
theorem ph_two (n : Nat) : ph (2 * n) = mx r16 (ph n) := by
  rw [ph_step, show 2 * n / 2 = n by omega, show 2 * n % 2 = 0 by omega]
  exact BitVec.xor_zero
theorem ph_shl (n : Nat) : ∀ s, ph (n <<< s) = pw r16 (ph n) s
  | 0 => rfl
  | s + 1 => by
    rw [Nat.shiftLeft_succ, ph_two, ph_shl n s]; rfl
theorem ph_xor (a b : Nat) : ph (a ^^^ b) = ph a ^^^ ph b := by
  induction a using Nat.strongRecOn generalizing b with
  | ind a ih =>
    by_cases h : a = 0
    · subst h; rw [ph_zero, Nat.zero_xor]; exact BitVec.zero_xor.symm
    · have e1 : (a ^^^ b) / 2 = (a / 2) ^^^ (b / 2) := by
        have := Nat.shiftRight_xor_distrib (a := a) (b := b) (i := 1)
        simpa [Nat.shiftRight_eq_div_pow] using this
      have e2 : BitVec.ofNat 16 ((a ^^^ b) % 2) = BitVec.ofNat 16 (a % 2) ^^^ BitVec.ofNat 16 (b % 2) := by
        have : (a ^^^ b) % 2 = (a % 2) ^^^ (b % 2) := by have := Nat.xor_mod_two_pow (a := a) (b := b) (n := 1); simpa using this
        rw [this]
        rcases Nat.mod_two_eq_zero_or_one a with ha | ha <;> rcases Nat.mod_two_eq_zero_or_one b with hb | hb <;> rw [ha, hb] <;> rfl
      rw [ph_step (a ^^^ b), ph_step a, ph_step b, e1, e2, ih (a / 2) (by omega), mx_xor]
      ac_rfl
theorem two_xor (k b : Nat) (hb : b < 2) : 2 * k ^^^ b = 2 * k + b := by
  rcases (show b = 0 ∨ b = 1 by omega) with rfl | rfl
  · simp
  · refine Nat.eq_of_testBit_eq fun i => ?_
    cases i with
    | zero => simp [Nat.testBit_xor]
    | succ i => rw [Nat.testBit_xor, Nat.testBit_succ, Nat.testBit_succ, Nat.testBit_succ, show 2 * k / 2 = k by omega, show (2 * k + 1) / 2 = k by omega]; simp
theorem ph_small : ∀ n, n < 65536 → ph n = BitVec.ofNat 16 n := by
  intro n
  induction n using Nat.strongRecOn with
  | ind n ih =>
    intro hn
    by_cases h : n = 0
    · subst h; exact ph_zero
    · have hk : n / 2 < 32768 := by omega
      rw [ph_step, ih (n / 2) (by omega) (by omega)]
      have hm : (BitVec.ofNat 16 (n / 2)).msb = false := by
        rw [BitVec.msb_eq_decide]; simp; omega
      unfold mx
      rw [hm]
      simp only [Bool.false_eq_true, if_false]
      apply BitVec.eq_of_toNat_eq
      rw [BitVec.toNat_xor, BitVec.toNat_shiftLeft, BitVec.toNat_ofNat, BitVec.toNat_ofNat, BitVec.toNat_ofNat, Nat.shiftLeft_eq, Nat.mod_eq_of_lt (show n / 2 < 2 ^ 16 by omega), Nat.mod_eq_of_lt (show n % 2 < 2 ^ 16 by omega), Nat.mod_eq_of_lt (show n / 2 * 2 ^ 1 < 2 ^ 16 by omega), Nat.mod_eq_of_lt (show n < 2 ^ 16 by omega)]
      have := two_xor (n / 2) (n % 2) (by omega)
      rw [show n / 2 * 2 ^ 1 = 2 * (n / 2) by omega, this]
      omega
theorem ph_p : ph 65581 = 0 := by
  have h : ph 65581 = mx r16 (ph 32790) ^^^ BitVec.ofNat 16 1 := ph_step 65581
  rw [h, ph_small 32790 (by decide)]
  decide
/-- The product without carries. -/
def cl (c x : Nat) : Nat := if h : c = 0 then 0 else (if c % 2 = 1 then x else 0) ^^^ (2 * cl (c / 2) x)
termination_by c
decreasing_by omega
theorem cl_zero (x : Nat) : cl 0 x = 0 := by unfold cl; rfl
theorem cl_step (c x : Nat) : cl c x = (if c % 2 = 1 then x else 0) ^^^ (2 * cl (c / 2) x) := by
  by_cases h : c = 0
  · subst h; rw [show 0 / 2 = 0 from rfl, cl_zero, if_neg (by decide)]; rfl
  · rw [cl, dif_neg h]
theorem ph_cl (c x : Nat) : ph (cl c x) = bmul r16 (ph c) (ph x) := by
  induction c using Nat.strongRecOn with
  | ind c ih =>
    by_cases h : c = 0
    · subst h
      rw [cl_zero, ph_zero]
      have := El.zero_mul (⟨ph x⟩ : El 16)
      exact (congrArg El.v this).symm
    · rw [cl_step, ph_xor, ph_two, ih (c / 2) (by omega), ph_step c, bmul_xor_left, bmul_mx]
      rw [BitVec.xor_comm]
      congr 1
      rcases Nat.mod_two_eq_zero_or_one c with hc | hc <;> rw [hc]
      · rw [if_neg (by decide), ph_zero]
        have := El.zero_mul (⟨ph x⟩ : El 16)
        exact (congrArg El.v this).symm
      · rw [if_pos rfl]
        have := El.one_mul (⟨ph x⟩ : El 16)
        exact (congrArg El.v this).symm
theorem blen_double {n : Nat} (h : n ≠ 0) : blen (2 * n) = blen n + 1 := by
  have h1 := blen_pos h
  have h2 := lt_blen n
  have h3 : 1 ≤ blen n := by
    rcases Nat.eq_zero_or_pos (blen n) with h0 | h0
    · rw [h0] at h2; simp at h2; exact absurd h2 h
    · exact h0
  refine blen_eq ?_ ?_
  · have : 2 ^ blen n = 2 ^ (blen n - 1) * 2 := by rw [← Nat.pow_succ]; congr 1; omega
    omega
  · rw [Nat.pow_succ]; omega
theorem blen_half {n : Nat} (h : 2 ≤ n) : blen n = blen (n / 2) + 1 := by
  have h1 := blen_pos (show n / 2 ≠ 0 by omega)
  have h2 := lt_blen (n / 2)
  have h3 : 1 ≤ blen (n / 2) := by
    rcases Nat.eq_zero_or_pos (blen (n / 2)) with h0 | h0
    · rw [h0] at h2; simp at h2; omega
    · exact h0
  refine blen_eq ?_ ?_
  · have : 2 ^ blen (n / 2) = 2 ^ (blen (n / 2) - 1) * 2 := by rw [← Nat.pow_succ]; congr 1; omega
    omega
  · rw [Nat.pow_succ]; omega
theorem blen_xor_lt {a b : Nat} (h : blen a < blen b) : blen (a ^^^ b) = blen b := by
  have hb0 : b ≠ 0 := by rintro rfl; rw [blen_zero] at h; omega
  have h1 := blen_pos hb0
  have h2 := lt_blen b
  have h3 := lt_blen a
  have h4 : a < 2 ^ (blen b - 1) := Nat.lt_of_lt_of_le h3 (Nat.pow_le_pow_right (by omega) (by omega))
  have hx : a ^^^ b < 2 ^ blen b := Nat.xor_lt_two_pow (Nat.lt_of_lt_of_le h4 (Nat.pow_le_pow_right (by omega) (by omega))) h2
  have hge : 2 ^ (blen b - 1) ≤ a ^^^ b := by
    refine Nat.le_of_not_lt fun hlt => ?_
    have : b = a ^^^ (a ^^^ b) := by rw [← Nat.xor_assoc, Nat.xor_self, Nat.zero_xor]
    have h5 : a ^^^ (a ^^^ b) < 2 ^ (blen b - 1) := Nat.xor_lt_two_pow h4 hlt
    rw [← this] at h5
    omega
  have := blen_eq (m := blen b - 1) hge (by rw [show blen b - 1 + 1 = blen b by omega]; exact hx)
  omega
theorem blen_xor_eq {a b : Nat} (h : blen a = blen b) (hb : b ≠ 0) : blen (a ^^^ b) < blen b := by
  rcases Nat.lt_trichotomy (blen (a ^^^ b)) (blen b) with h1 | h1 | h1
  · exact h1
  · exfalso
    -- a and a ^^^ b have b's length: then b = a ^^^ (a ^^^ b) would be shorter; by bits
    have ha0 : a ≠ 0 := by rintro rfl; rw [blen_zero] at h; have := blen_pos hb; rw [← h] at this; have h2 := lt_blen b; rw [← h] at h2; omega
    have hx0 : a ^^^ b ≠ 0 := by intro e; rw [e, blen_zero] at h1; have h2 := lt_blen b; rw [← h1] at h2; simp at h2; exact hb h2
    have tb : ∀ n : Nat, n ≠ 0 → n.testBit (blen n - 1) = true := by
      intro n hn
      have p1 := blen_pos hn
      have p2 := lt_blen n
      have p3 : 1 ≤ blen n := by
        rcases Nat.eq_zero_or_pos (blen n) with h0 | h0
        · rw [h0] at p2; simp at p2; exact absurd p2 hn
        · exact h0
      rw [Nat.testBit_eq_decide_div_mod_eq]
      have : n / 2 ^ (blen n - 1) = 1 := by
        apply Nat.div_eq_of_lt_le
        · omega
        · have : 2 ^ blen n = 2 ^ (blen n - 1) * 2 := by rw [← Nat.pow_succ]; congr 1; omega
          omega
      rw [this]; rfl
    have t1 := tb a ha0
    have t2 := tb b hb
    have t3 := tb _ hx0
    rw [h1, Nat.testBit_xor, t2, ← h, t1] at t3
    simp at t3
  · exfalso
    have h2 : a ^^^ b < 2 ^ blen b := Nat.xor_lt_two_pow (by rw [← h]; exact lt_blen a) (lt_blen b)
    have := blen_lt h2
    omega
theorem cl_blen {c x : Nat} (hc : c ≠ 0) (hx : x ≠ 0) : blen (cl c x) = blen c + blen x - 1 ∧ cl c x ≠ 0 := by
  have hbx : 1 ≤ blen x := by
    have h2 := lt_blen x
    rcases Nat.eq_zero_or_pos (blen x) with h0 | h0
    · rw [h0] at h2; simp at h2; exact absurd h2 hx
    · exact h0
  have key : blen (cl c x) = blen c + blen x - 1 := by
    induction c using Nat.strongRecOn with
    | ind c ih =>
      by_cases h1 : c = 1
      · subst h1
        rw [cl_step]
        show blen ((if 1 % 2 = 1 then x else 0) ^^^ (2 * cl 0 x)) = _
        rw [cl_zero]
        have : blen 1 = 1 := by decide
        simp [this]
      · have h2 := ih (c / 2) (by omega) (by omega)
        have hb := blen_half (show 2 ≤ c by omega)
        have hne : cl (c / 2) x ≠ 0 := by
          intro e
          rw [e, blen_zero] at h2
          have h3 := lt_blen (c / 2)
          have h4 : 1 ≤ blen (c / 2) := by
            rcases Nat.eq_zero_or_pos (blen (c / 2)) with h0 | h0
            · rw [h0] at h3; simp at h3; omega
            · exact h0
          omega
        have hd := blen_double hne
        have hcp : 1 ≤ blen (c / 2) := by
          have h3 := lt_blen (c / 2)
          rcases Nat.eq_zero_or_pos (blen (c / 2)) with h0 | h0
          · rw [h0] at h3; simp at h3; omega
          · exact h0
        rw [cl_step]
        have h5 : blen (if c % 2 = 1 then x else 0) < blen (2 * cl (c / 2) x) := by
          split
          · omega
          · rw [blen_zero]; omega
        rw [blen_xor_lt h5]
        omega
  refine ⟨key, fun e => ?_⟩
  rw [e, blen_zero] at key
  have h3 := lt_blen c
  have : 1 ≤ blen c := by
    rcases Nat.eq_zero_or_pos (blen c) with h0 | h0
    · rw [h0] at h3; simp at h3; omega
    · exact h0
  omega
end Go.Fw

set_option linter.unusedVariables false
set_option linter.unusedSimpArgs false
set_option maxRecDepth 100000
set_option maxHeartbeats 1000000
namespace Go.Proofs.Ytbaljbadlfopgaa.Fw
open Go Go.Fw Go.Proofs
attribute [local irreducible] stepI
def c_gf16_Inv : C := .seq (.ops [⟨0,some 2,none,.mov (.c (.int .u16 0)),[]⟩,⟨1,some 3,none,.mov (.c (.int .i64 0)),[]⟩]) (.seq (.seq (.ops [⟨0,some 6,none,.mov (.t 0),[]⟩,⟨1,some 7,none,.bin .eql (.t 6) (.c (.int .u16 0)),[]⟩]) (.ite (.t 7) (.seq (.ops [⟨0,some 2,none,.mov (.c (.int .u16 0)),[]⟩,⟨1,some 3,none,.mov (.c (.int .i64 20)),[]⟩]) .ret) .skip)) (.seq (.ops [⟨0,some 9,none,.mov (.t 0),[]⟩,⟨1,some 10,none,.cnv .u64 (.t 9),[]⟩,⟨2,some 11,none,.call (.c (.func (.func 110) #[] #[])) [.t 10,.c (.int .u64 65581)],[]⟩,⟨3,some 8,none,.mov (.t 11),[]⟩,⟨4,some 12,none,.ext (.t 8) 0,[]⟩,⟨5,some 13,none,.ext (.t 8) 1,[]⟩,⟨6,some 4,none,.mov (.t 12),[]⟩,⟨7,some 5,none,.mov (.t 13),[]⟩]) (.seq (.ops [⟨0,some 14,none,.mov (.t 4),[]⟩,⟨1,some 15,none,.cnv .u16 (.t 14),[]⟩,⟨2,some 2,none,.mov (.t 15),[]⟩,⟨3,some 3,none,.mov (.c (.int .i64 0)),[]⟩]) .ret)))
attribute [irreducible] c_gf16_Inv
theorem run_gf16_Inv {args : List Value} {w : World} {K : Value → World → Prop} (hn : args.length ≤ 16) (h : WP Try.prog c_gf16_Inv (endQ [.t 2, .t 3] K) (initT args) w) : CallV Try.prog 71 args w K :=
  call_of follows Try.func71 (by kernel_rfl) (by kernel_rfl) hn h
def c_ring_InvMod : C := .seq (.ops [⟨0,some 4,none,.mov (.c (.int .u64 0)),[]⟩,⟨1,some 5,none,.mov (.c (.int .i64 0)),[]⟩]) (.seq (.seq (.ops [⟨0,some 13,none,.mov (.t 1),[]⟩,⟨1,some 14,none,.call (.c (.func (.func 137) #[] #[])) [.t 13,.c (.int .i64 32)],[]⟩,⟨2,some 15,none,.un .not (.t 14),[]⟩]) (.ite (.t 15) (.seq (.ops [⟨0,some 4,none,.mov (.c (.int .u64 0)),[]⟩,⟨1,some 5,none,.mov (.c (.int .i64 11)),[]⟩]) .ret) .skip)) (.seq (.ops [⟨0,some 17,none,.mov (.t 0),[]⟩,⟨1,some 18,none,.mov (.t 1),[]⟩,⟨2,some 19,none,.call (.c (.func (.func 139) #[] #[])) [.t 17,.t 18],[]⟩,⟨3,some 16,none,.mov (.t 19),[]⟩,⟨4,some 20,none,.ext (.t 16) 0,[]⟩,⟨5,some 21,none,.ext (.t 16) 1,[]⟩,⟨6,some 6,none,.mov (.t 20),[]⟩,⟨7,some 7,none,.mov (.t 21),[]⟩]) (.seq (.ops [⟨0,some 22,none,.mov (.t 1),[]⟩,⟨1,some 8,none,.mov (.t 22),[]⟩]) (.seq (.ops [⟨0,some 9,none,.mov (.c (.int .u64 0)),[]⟩,⟨1,some 10,none,.mov (.c (.int .u64 1)),[]⟩]) (.seq (.block 0 (.loop (.seq (.seq (.ops [⟨0,some 23,none,.mov (.t 7),[]⟩,⟨1,some 24,none,.bin .neq (.t 23) (.c (.int .u64 0)),[]⟩]) (.ite (.t 24) .skip (.exit 0))) (.block 1 (.seq (.ops [⟨0,some 26,none,.mov (.t 8),[]⟩,⟨1,some 27,none,.mov (.t 7),[]⟩,⟨2,some 28,none,.call (.c (.func (.func 139) #[] #[])) [.t 26,.t 27],[]⟩,⟨3,some 25,none,.mov (.t 28),[]⟩,⟨4,some 29,none,.ext (.t 25) 0,[]⟩,⟨5,some 30,none,.ext (.t 25) 1,[]⟩,⟨6,some 11,none,.mov (.t 29),[]⟩,⟨7,some 12,none,.mov (.t 30),[]⟩]) (.seq (.ops [⟨0,some 31,none,.mov (.t 7),[]⟩,⟨1,some 32,none,.mov (.t 12),[]⟩,⟨2,some 8,none,.mov (.t 31),[]⟩,⟨3,some 7,none,.mov (.t 32),[]⟩]) (.ops [⟨0,some 33,none,.mov (.t 10),[]⟩,⟨1,some 34,none,.mov (.t 9),[]⟩,⟨2,some 35,none,.mov (.t 11),[]⟩,⟨3,some 36,none,.mov (.t 10),[]⟩,⟨4,some 37,none,.mov (.t 1),[]⟩,⟨5,some 38,none,.call (.c (.func (.func 138) #[] #[])) [.t 35,.t 36,.t 37],[]⟩,⟨6,some 39,none,.bin .xor (.t 34) (.t 38),[]⟩,⟨7,some 9,none,.mov (.t 33),[]⟩,⟨8,some 10,none,.mov (.t 39),[]⟩]))))))) (.seq (.seq (.ops [⟨0,some 40,none,.mov (.t 8),[]⟩,⟨1,some 41,none,.bin .neq (.t 40) (.c (.int .u64 1)),[]⟩]) (.ite (.t 41) (.seq (.ops [⟨0,some 4,none,.mov (.c (.int .u64 0)),[]⟩,⟨1,some 5,none,.mov (.c (.int .i64 12)),[]⟩]) .ret) .skip)) (.seq (.ops [⟨0,some 43,none,.mov (.t 9),[]⟩,⟨1,some 44,none,.mov (.t 1),[]⟩,⟨2,some 45,none,.call (.c (.func (.func 139) #[] #[])) [.t 43,.t 44],[]⟩,⟨3,some 42,none,.mov (.t 45),[]⟩,⟨4,some 46,none,.ext (.t 42) 0,[]⟩,⟨5,some 47,none,.ext (.t 42) 1,[]⟩,⟨6,some 9,none,.mov (.t 47),[]⟩]) (.seq (.ops [⟨0,some 48,none,.mov (.t 9),[]⟩,⟨1,some 4,none,.mov (.t 48),[]⟩,⟨2,some 5,none,.mov (.c (.int .i64 0)),[]⟩]) .ret))))))))
attribute [irreducible] c_ring_InvMod
theorem run_ring_InvMod {args : List Value} {w : World} {K : Value → World → Prop} (hn : args.length ≤ 49) (h : WP Try.prog c_ring_InvMod (endQ [.t 4, .t 5] K) (initT args) w) : CallV Try.prog 110 args w K :=
  call_of follows Try.func110 (by kernel_rfl) (by kernel_rfl) hn h
end Go.Proofs.Ytbaljbadlfopgaa.Fw
namespace Go.Proofs.Ytbaljbadlfopgaa.Fw
open Go Go.Fw
theorem zxor (b : BitVec 16) : (0 : BitVec 16) ^^^ b = b := BitVec.zero_xor
theorem blen_shl {b : Nat} (h : b ≠ 0) : ∀ s, blen (b <<< s) = blen b + s ∧ b <<< s ≠ 0
  | 0 => ⟨rfl, h⟩
  | s + 1 => by
    obtain ⟨h1, h2⟩ := blen_shl h s
    rw [Nat.shiftLeft_succ]
    exact ⟨by rw [blen_double h2, h1]; omega, by omega⟩
theorem lt_of_blen {n m : Nat} (h : blen n ≤ m) : n < 2 ^ m := Nat.lt_of_lt_of_le (lt_blen n) (Nat.pow_le_pow_right (by omega) h)
theorem bmul_pw16 (a b : BitVec 16) : ∀ s, bmul r16 (pw r16 a s) b = pw r16 (bmul r16 a b) s
  | 0 => rfl
  | s + 1 => by show bmul r16 (mx r16 (pw r16 a s)) b = mx r16 (pw r16 (bmul r16 a b) s); rw [bmul_mx, bmul_pw16 a b s]
theorem one_bmul (b : BitVec 16) : bmul r16 1 b = b := congrArg El.v (El.one_mul (⟨b⟩ : El 16))
theorem zero_bmul (b : BitVec 16) : bmul r16 0 b = 0 := congrArg El.v (El.zero_mul (⟨b⟩ : El 16))
theorem bmul_zero (b : BitVec 16) : bmul r16 b 0 = 0 := congrArg El.v (El.mul_zero (⟨b⟩ : El 16))
theorem ph_one : ph 1 = 1 := ph_small 1 (by decide)
theorem tb_one (s i : Nat) : (1 <<< s).testBit i = decide (s = i) := by rw [Nat.one_shiftLeft, Nat.testBit_two_pow]
theorem or_xor_bit {q s : Nat} (h : q.testBit s = false) : q ||| (1 <<< s) = q ^^^ (1 <<< s) := by
  refine Nat.eq_of_testBit_eq fun i => ?_
  rw [Nat.testBit_or, Nat.testBit_xor, tb_one]
  by_cases hi : s = i
  · subst hi; rw [h]; simp
  · simp [hi]
theorem blen_one_shl (s : Nat) : blen (1 <<< s) = s + 1 := by
  have h1 : blen 1 = 1 := by decide
  rw [(blen_shl (show (1 : Nat) ≠ 0 by decide) s).1, h1]; omega
theorem ring_divMod_spec (w : World) (a b : Nat) (hb0 : b ≠ 0) (ha : blen a ≤ 17) (hb : blen b ≤ 17) : CallV Try.prog 139 [.int .u64 (a : Int), .int .u64 (b : Int)] w fun v w' => w' = w ∧ ∃ q r : Nat, v = .tuple #[.int .u64 (q : Int), .int .u64 (r : Int)] ∧
    ph a = bmul r16 (ph q) (ph b) ^^^ ph r ∧ blen r < blen b ∧ blen q ≤ 17 ∧ (blen b ≤ blen a → blen q = blen a - blen b + 1) := by
  have hbl : b < 2 ^ 17 := lt_of_blen hb
  have hal : a < 2 ^ 17 := lt_of_blen ha
  have hbp : 1 ≤ blen b := by
    rcases Nat.eq_zero_or_pos (blen b) with h0 | h0
    · have := lt_blen b; rw [h0] at this; simp at this; exact absurd this hb0
    · exact h0
  refine run_ring_divMod (by simp) ?_
  simp only [c_ring_divMod, WS, ↓reduceIte, Nat.reduceEqDiff, reduceCtorEq]
  refine X_call0 ((ring_Degree_spec w b (by omega)).mono ?_)
  rintro v w' ⟨rfl, rfl⟩
  simp only [WS, ↓reduceIte, Nat.reduceEqDiff, reduceCtorEq]
  refine loop_of (fun t w => w = w' ∧ t 1 = .int .u64 (b : Int) ∧ t 6 = .int .i64 ((blen b : Int) - 1) ∧ ∃ c q : Nat, t 0 = .int .u64 (c : Int) ∧ t 4 = .int .u64 (q : Int) ∧ ph a = bmul r16 (ph q) (ph b) ^^^ ph c ∧ blen c ≤ 17 ∧ blen q ≤ 17 ∧
      (∀ i, i < blen c + 1 - blen b → q.testBit i = false) ∧ ((q = 0 ∧ c = a) ∨ (blen b ≤ blen a ∧ blen q = blen a - blen b + 1 ∧ blen c < blen a)))
    (fun t _ => (toI (t 0)).toNat) ⟨rfl, rfl, rfl, a, 0, rfl, rfl, by rw [ph_zero, zero_bmul, zxor], ha, by decide, fun i _ => Nat.zero_testBit i, Or.inl ⟨rfl, rfl⟩⟩ ?_
  rintro t w ⟨rfl, h1, h6, c, q, h0, h4, hph, hc, hq, hlow, hcase⟩
  have hcl : c < 2 ^ 17 := lt_of_blen hc
  have hql : q < 2 ^ 17 := lt_of_blen hq
  simp only [WS, ↓reduceIte, Nat.reduceEqDiff, reduceCtorEq, h0, h1, h4, h6]
  refine X_call0 ((ring_Degree_spec w c (by omega)).mono ?_)
  rintro v w' ⟨rfl, rfl⟩
  have e : IntKind.i64.wrap ((blen c : Int) - 1 - ((blen b : Int) - 1)) = (blen c : Int) - (blen b : Int) := by rw [wrap_id (by omega) (by omega)]; omega
  by_cases hlt : blen c < blen b
  · simp only [WS, ↓reduceIte, Nat.reduceEqDiff, reduceCtorEq, h0, h1, h4, h6, e, show decide ((blen c : Int) - (blen b : Int) < 0) = true from decide_eq_true (by omega)]
    refine ⟨q, c, rfl, hph, hlt, hq, fun h => ?_⟩
    rcases hcase with ⟨rfl, rfl⟩ | ⟨_, h3, _⟩
    · omega
    · exact h3
  · obtain ⟨s, hs⟩ : ∃ s, blen c = blen b + s := ⟨blen c - blen b, by omega⟩
    have e2 : (blen c : Int) - (blen b : Int) = (s : Int) := by omega
    rw [e2] at e
    have hs17 : s ≤ 16 := by omega
    have hps : 2 ^ s ≤ 2 ^ 16 := Nat.pow_le_pow_right (by omega) hs17
    have k1 : shlV .u64 (1 : Int) (s : Int) = ((1 <<< s : Nat) : Int) := shl_nat fits_u64 1 s (show s ≤ 64 by omega) (by omega)
    have hbs : b <<< s < 2 ^ 17 := lt_of_blen (by rw [(blen_shl hb0 s).1]; omega)
    have k2 : shlV .u64 (b : Int) (s : Int) = ((b <<< s : Nat) : Int) := shl_nat fits_u64 b s (show s ≤ 64 by omega) (by rw [← Nat.shiftLeft_eq]; omega)
    have h1s : 1 <<< s < 2 ^ 17 := by rw [Nat.shiftLeft_eq]; omega
    have k3 : bitsOp .or .u64 (q : Int) ((1 <<< s : Nat) : Int) = ((q ||| (1 <<< s) : Nat) : Int) := bits_or fits_u64 (show q < 2 ^ 64 by omega) (show 1 <<< s < 2 ^ 64 by omega)
    have k4 : bitsOp .xor .u64 (c : Int) ((b <<< s : Nat) : Int) = ((c ^^^ (b <<< s) : Nat) : Int) := bits_xor fits_u64 (show c < 2 ^ 64 by omega) (show b <<< s < 2 ^ 64 by omega)
    obtain ⟨bs1, bs2⟩ := blen_shl hb0 s
    have hdec : blen (c ^^^ (b <<< s)) < blen c := by
      have := blen_xor_eq (a := c) (b := b <<< s) (by omega) bs2
      omega
    have hqs : q.testBit s = false := hlow s (by omega)
    have hor := or_xor_bit hqs
    simp only [WS, ↓reduceIte, Nat.reduceEqDiff, reduceCtorEq, X_shl, Int.natCast_nonneg, h0, h1, h4, h6, e, show decide ((s : Int) < 0) = false from decide_eq_false (by omega), k1, k2, k3, k4, toI_int, Int.toNat_natCast]
    have hcase' : blen b ≤ blen a ∧ blen (q ||| 1 <<< s) = blen a - blen b + 1 ∧ blen (c ^^^ b <<< s) < blen a := by
      rw [hor]
      rcases hcase with ⟨rfl, rfl⟩ | ⟨g1, g2, g3⟩
      · rw [Nat.zero_xor, blen_one_shl]; omega
      · refine ⟨g1, ?_, by omega⟩
        rw [Nat.xor_comm, blen_xor_lt (by rw [blen_one_shl]; omega), g2]
    refine ⟨⟨c ^^^ (b <<< s), q ||| (1 <<< s), rfl, rfl, ?_, by omega, by omega, fun i hi => ?_, Or.inr hcase'⟩, ?_⟩
    · rw [hor, ph_xor, ph_xor, ph_shl, ph_shl, ph_one, bmul_xor_left, bmul_pw16, one_bmul, hph]
      generalize bmul r16 (ph q) (ph b) = u
      generalize pw r16 (ph b) s = v
      rw [show u ^^^ v ^^^ (ph c ^^^ v) = u ^^^ ph c ^^^ (v ^^^ v) by ac_rfl, BitVec.xor_self, BitVec.xor_zero]
    · rw [Nat.testBit_or, tb_one, hlow i (by omega)]
      simp; omega
    · have g1 : c ^^^ (b <<< s) < 2 ^ (blen c - 1) := lt_of_blen (by omega)
      have hc0 : c ≠ 0 := by rintro rfl; rw [blen_zero] at hs; omega
      have g2 := blen_pos hc0
      omega
theorem ring_modP_spec (w : World) (a : Nat) (ha : blen a ≤ 17) : CallV Try.prog 139 [.int .u64 (a : Int), .int .u64 65581] w fun v w' => w' = w ∧ ∃ q : Int, v = .tuple #[.int .u64 q, .int .u64 ((ph a).toNat : Int)] := by
  have hp : blen 65581 = 17 := by decide +kernel
  refine (ring_divMod_spec w a 65581 (by decide) ha (by omega)).mono ?_
  rintro v w' ⟨rfl, q, r, rfl, h1, h2, -, -⟩
  have hr : r < 65536 := lt_of_blen (m := 16) (by omega)
  rw [ph_p, bmul_zero, zxor, ph_small r hr] at h1
  refine ⟨rfl, (q : Int), ?_⟩
  rw [h1, BitVec.toNat_ofNat, Nat.mod_eq_of_lt hr]
theorem ring_mulModN_spec (w : World) (a0 b0 : Nat) (ha0 : blen a0 ≤ 17) (hb0 : blen b0 ≤ 17) : CallV Try.prog 138 [.int .u64 (a0 : Int), .int .u64 (b0 : Int), .int .u64 65581] w fun v w' => v = .int .u64 ((bmul r16 (ph a0) (ph b0)).toNat : Int) ∧ w' = w := by
  have hp : blen 65581 = 17 := by decide +kernel
  refine run_ring_mulMod (by simp) ?_
  simp only [c_ring_mulMod, WS, ↓reduceIte, Nat.reduceEqDiff, reduceCtorEq]
  refine X_call0 ((ring_modP_spec w a0 ha0).mono ?_)
  rintro v w' ⟨rfl, _, rfl⟩
  simp only [WS, ↓reduceIte, Nat.reduceEqDiff, reduceCtorEq]
  refine X_call0 ((ring_modP_spec w' b0 hb0).mono ?_)
  rintro v w ⟨rfl, _, rfl⟩
  simp only [WS, ↓reduceIte, Nat.reduceEqDiff, reduceCtorEq]
  have key : ∀ a b : El 16, ph a0 = a.v → ph b0 = b.v → (bmul r16 (ph a0) (ph b0)) = (a * b).v := fun a b h1 h2 => by rw [h1, h2]; rfl
  obtain ⟨a, ea⟩ : ∃ a : El 16, ph a0 = a.v := ⟨⟨_⟩, rfl⟩
  obtain ⟨b, eb⟩ : ∃ b : El 16, ph b0 = b.v := ⟨⟨_⟩, rfl⟩
  rw [key a b ea eb, ea, eb]
  have ha := a.v.isLt
  have hb := b.v.isLt
  have hbp : w = w := rfl
  refine X_call0 ((ring_Degree_spec w 65581 (by decide)).mono ?_)
  rintro v w' ⟨rfl, rfl⟩
  rw [hp]
  simp only [WS, ↓reduceIte, Nat.reduceEqDiff, reduceCtorEq]
  refine loop_of (fun t w => w = w' ∧ t 0 = .int .u64 (a.v.toNat : Int) ∧ t 1 = .int .u64 (b.v.toNat : Int) ∧ t 2 = .int .u64 65581 ∧ t 7 = .int .i64 16 ∧ ∃ (m : Nat) (s : BitVec 16), m ≤ 16 ∧ t 8 = .int .u64 (s.toNat : Int) ∧ t 9 = .int .i64 ((m : Int) - 1) ∧ horner r16 a.v b.v m s = (a * b).v) (fun t _ => (toI (t 9) + 1).toNat) ⟨rfl, rfl, rfl, rfl, rfl, 16, 0, by omega, rfl, rfl, horner_mul r16 a.v b.v⟩ ?_
  rintro t w ⟨rfl, h0, h1, h2, h7, m, s, hm, h8, h9, hh⟩
  rcases Nat.eq_zero_or_pos m with rfl | hpos
  · have d1 : decide ((0 : Int) ≤ ((0 : Nat) : Int) - 1) = false := by decide
    simp only [WS, ↓reduceIte, Nat.reduceEqDiff, reduceCtorEq, h8, h9, d1]
    rw [← hh]; rfl
  · obtain ⟨m, rfl⟩ : ∃ k, m = k + 1 := ⟨m - 1, by omega⟩
    have e1 : ((m + 1 : Nat) : Int) - 1 = (m : Int) := by omega
    rw [e1] at h9
    have hs := s.isLt
    have d1 : decide ((0 : Int) ≤ (m : Int)) = true := by simp
    have s1 : shlV .u64 (s.toNat : Int) 1 = ((s.toNat <<< 1 : Nat) : Int) := shl_nat fits_u64 s.toNat 1 (by decide) (by omega)
    have e2 : s.toNat <<< 1 = 2 * s.toNat := by rw [Nat.shiftLeft_eq]; omega
    have t1 : bitsOp .and .u64 (shrV .u64 ((s.toNat <<< 1 : Nat) : Int) 16) 1 = if (s.toNat <<< 1).testBit 16 then 1 else 0 := and1_u64 (s.toNat <<< 1) 16 (by omega) (by decide)
    rw [mx16_bit] at t1
    have t2 := and1_u64 b.v.toNat m (by omega) (by omega)
    have hbit : b.v.toNat.testBit m = b.v.getLsbD m := BitVec.testBit_toNat b.v
    rw [hbit] at t2
    have x1 : bitsOp .xor .u64 ((s.toNat <<< 1 : Nat) : Int) 65581 = (((s.toNat <<< 1) ^^^ 65581 : Nat) : Int) := bits_xor fits_u64 (by omega) (by decide)
    have v1 := mx16_val s
    have x2 : ∀ y : BitVec 16, bitsOp .xor .u64 (y.toNat : Int) (a.v.toNat : Int) = ((y ^^^ a.v).toNat : Int) := fun y => by
      have := y.isLt
      rw [bits_xor fits_u64 (by omega) (by omega), BitVec.toNat_xor]
    simp only [horner] at hh
    have w1 : IntKind.i64.wrap ((m : Int) - 1) = (m : Int) - 1 := wrap_id (by omega) (by omega)
    have m1 : (((m : Int) - 1) + 1).toNat < ((m : Int) + 1).toNat := by omega
    cases hmsb : s.msb <;> cases hbm : b.v.getLsbD m <;> simp only [hmsb, hbm, if_true, if_false, Bool.false_eq_true] at t1 t2 v1 hh
    · simp only [WS, ↓reduceIte, Nat.reduceEqDiff, reduceCtorEq, X_shl, X_shr, Int.reduceLE, Int.natCast_nonneg, h0, h1, h2, h7, h8, h9, d1, s1, t1, t2, Int.reduceEq, w1, toI_int]
      refine ⟨⟨m, mx r16 s, by omega, by rw [← v1], rfl, ?_⟩, m1⟩
      rw [← hh]; simp [sel]
    · rw [v1] at t1
      simp only [WS, ↓reduceIte, Nat.reduceEqDiff, reduceCtorEq, X_shl, X_shr, Int.reduceLE, Int.natCast_nonneg, h0, h1, h2, h7, h8, h9, d1, s1, t1, t2, Int.reduceEq, v1, x2, w1, toI_int]
      exact ⟨⟨m, mx r16 s ^^^ a.v, by omega, rfl, rfl, by rw [← hh]; simp [sel]⟩, m1⟩
    · simp only [WS, ↓reduceIte, Nat.reduceEqDiff, reduceCtorEq, X_shl, X_shr, Int.reduceLE, Int.natCast_nonneg, h0, h1, h2, h7, h8, h9, d1, s1, t1, t2, Int.reduceEq, x1, v1, w1, toI_int]
      exact ⟨⟨m, mx r16 s, by omega, rfl, rfl, by rw [← hh]; simp [sel]⟩, m1⟩
    · simp only [WS, ↓reduceIte, Nat.reduceEqDiff, reduceCtorEq, X_shl, X_shr, Int.reduceLE, Int.natCast_nonneg, h0, h1, h2, h7, h8, h9, d1, s1, t1, t2, Int.reduceEq, x1, v1, x2, w1, toI_int]
      exact ⟨⟨m, mx r16 s ^^^ a.v, by omega, rfl, rfl, by rw [← hh]; simp [sel]⟩, m1⟩
theorem blen_pos1 {n : Nat} (h : n ≠ 0) : 1 ≤ blen n := by
  rcases Nat.eq_zero_or_pos (blen n) with h0 | h0
  · have := lt_blen n; rw [h0] at this; simp at this; exact absurd this h
  · exact h0
theorem ph_nat (x : BitVec 16) : ph x.toNat = x := by
  rw [ph_small _ x.isLt]; simp
theorem nat_blen (x : BitVec 16) : blen x.toNat ≤ 16 := blen_lt x.isLt
theorem ring_InvMod_spec (w : World) (a : El 16) (ha : a ≠ 0) : CallV Try.prog 110 [.int .u64 (a.v.toNat : Int), .int .u64 65581] w fun v w' => v = .tuple #[.int .u64 (a.inv.v.toNat : Int), .int .i64 0] ∧ w' = w := by
  have hp : blen 65581 = 17 := by decide +kernel
  have ha16 := nat_blen a.v
  refine run_ring_InvMod (by simp) ?_
  simp only [c_ring_InvMod, WS, ↓reduceIte, Nat.reduceEqDiff, reduceCtorEq]
  refine X_call0 ((ring_isModulus_spec w 65581 32 (by decide) (by decide)).mono ?_)
  rintro v w' ⟨rfl, rfl⟩
  rw [hp]
  simp only [WS, ↓reduceIte, Nat.reduceEqDiff, reduceCtorEq, show decide (2 ≤ 17 ∧ 17 ≤ 32 + 1) = true from rfl]
  refine X_call0 ((ring_modP_spec w' a.v.toNat (by omega)).mono ?_)
  rintro v w ⟨rfl, q0, rfl⟩
  rw [ph_nat]
  simp only [WS, ↓reduceIte, Nat.reduceEqDiff, reduceCtorEq]
  refine loop_of (fun t w' => w' = w ∧ t 1 = .int .u64 65581 ∧ ∃ x y S U : Nat, t 8 = .int .u64 (x : Int) ∧ t 7 = .int .u64 (y : Int) ∧ t 9 = .int .u64 ((ph S).toNat : Int) ∧ t 10 = .int .u64 ((ph U).toNat : Int) ∧
      ph x = bmul r16 (ph S) a.v ∧ ph y = bmul r16 (ph U) a.v ∧ blen x ≤ 17 ∧ blen y < blen x ∧ U ≠ 0 ∧ blen S < blen U ∧ blen U + blen x = 18)
    (fun t _ => (toI (t 7)).toNat) ⟨rfl, rfl, 65581, a.v.toNat, 0, 1, rfl, rfl, by rw [ph_zero]; rfl, by rw [ph_one]; rfl, by rw [ph_p, ph_zero, zero_bmul], by rw [ph_nat, ph_one, one_bmul], by omega, by omega, by decide, by decide, by rw [hp]; decide⟩ ?_
  rintro t w' ⟨rfl, t1, x, y, S, U, t8, t7, t9, t10, hx, hy, hx17, hyx, hU, hSU, h18⟩
  by_cases hy0 : y = 0
  · subst hy0
    have hph : ph U = 0 := by
      rw [ph_zero] at hy
      have h2 : (⟨ph U⟩ : El 16) * a = 0 := El.ext hy.symm
      rcases El.mul_eq_zero.1 h2 with h3 | h3
      · exact congrArg El.v h3
      · exact absurd h3 ha
    have hU17 : 17 ≤ blen U := by
      refine Nat.le_of_not_lt fun hlt => ?_
      have hlt2 : U < 65536 := lt_of_blen (m := 16) (by omega)
      rw [ph_small U hlt2] at hph
      have := congrArg BitVec.toNat hph
      rw [BitVec.toNat_ofNat, Nat.mod_eq_of_lt hlt2] at this
      exact hU this
    have hx1 : x = 1 := by
      have h1 : x < 2 ^ 1 := lt_of_blen (by omega)
      have h2 : x ≠ 0 := by rintro rfl; rw [blen_zero] at hyx; omega
      omega
    subst hx1
    have hinv : a.inv = ⟨ph S⟩ := by
      rw [ph_one] at hx
      have h1 : (⟨ph S⟩ : El 16) * a = 1 := El.ext hx.symm
      calc a.inv = ⟨ph S⟩ * a * a.inv := by rw [h1, El.one_mul]
        _ = ⟨ph S⟩ := by rw [El.mul_assoc, El.mul_inv a ha, El.mul_one]
    simp only [WS, ↓reduceIte, Nat.reduceEqDiff, reduceCtorEq, t1, t7, t8, t9, t10, show decide (((0 : Nat) : Int) = 0) = true from rfl, show decide (((1 : Nat) : Int) = 1) = true from rfl]
    refine X_call0 ((ring_modP_spec w' (ph S).toNat (by have := nat_blen (ph S); omega)).mono ?_)
    rintro v w ⟨rfl, q1, rfl⟩
    rw [ph_nat]
    simp only [WS, ↓reduceIte, Nat.reduceEqDiff, reduceCtorEq, hinv]
  · have hyb := blen_pos1 hy0
    simp only [WS, ↓reduceIte, Nat.reduceEqDiff, reduceCtorEq, t1, t7, t8, t9, t10, show decide ((y : Int) = 0) = false from decide_eq_false (by omega)]
    refine X_call0 ((ring_divMod_spec w' x y hy0 hx17 (by omega)).mono ?_)
    rintro v w ⟨rfl, q, r, rfl, hqr, hrb, hq17, hqb⟩
    have hqb := hqb (by omega)
    have hq0 : q ≠ 0 := by rintro rfl; rw [blen_zero] at hqb; omega
    simp only [WS, ↓reduceIte, Nat.reduceEqDiff, reduceCtorEq, t1, t7, t8, t9, t10]
    refine X_call0 ((ring_mulModN_spec w q (ph U).toNat hq17 (by have := nat_blen (ph U); omega)).mono ?_)
    rintro v w' ⟨rfl, rfl⟩
    rw [ph_nat]
    have hxor : bitsOp .xor .u64 ((ph S).toNat : Int) ((bmul r16 (ph q) (ph U)).toNat : Int) = ((ph (S ^^^ cl q U)).toNat : Int) := by
      have l1 := (ph S).isLt
      have l2 := (bmul r16 (ph q) (ph U)).isLt
      rw [bits_xor fits_u64 (show (ph S).toNat < 2 ^ 64 by omega) (show (bmul r16 (ph q) (ph U)).toNat < 2 ^ 64 by omega), ph_xor, ph_cl, BitVec.toNat_xor]
    obtain ⟨cb, c0⟩ := cl_blen hq0 hU
    have hbx : blen (S ^^^ cl q U) = blen (cl q U) := blen_xor_lt (by omega)
    simp only [WS, ↓reduceIte, Nat.reduceEqDiff, reduceCtorEq, t1, t7, t8, t9, t10, hxor, toI_int, Int.toNat_natCast]
    refine ⟨⟨y, r, U, S ^^^ cl q U, rfl, rfl, rfl, rfl, hy, ?_, by omega, hrb, ?_, by omega, by omega⟩, ?_⟩
    · have e1 : ph r = ph x ^^^ bmul r16 (ph q) (ph y) := by
        rw [hqr]
        generalize bmul r16 (ph q) (ph y) = u
        rw [show u ^^^ ph r ^^^ u = u ^^^ u ^^^ ph r by ac_rfl, BitVec.xor_self, BitVec.zero_xor]
      rw [e1, hx, hy, ph_xor, ph_cl, bmul_xor_left, a16]
    · intro e
      rw [e, blen_zero] at hbx
      have := blen_pos1 c0
      omega
    · have g1 : r < 2 ^ (blen y - 1) := lt_of_blen (by omega)
      have g2 := blen_pos hy0
      omega
theorem gf16_Inv_spec (w : World) (a : El 16) (ha : a ≠ 0) : CallV Try.prog 71 [.int .u16 (a.v.toNat : Int)] w fun v w' => v = .tuple #[.int .u16 (a.inv.v.toNat : Int), .int .i64 0] ∧ w' = w := by
  have hal := a.v.isLt
  have hil := a.inv.v.isLt
  refine run_gf16_Inv (by simp) ?_
  simp only [c_gf16_Inv, WS, ↓reduceIte, Nat.reduceEqDiff, reduceCtorEq, el_zero, decide_eq_false ha, wrap_u64 _ (show a.v.toNat < 18446744073709551616 by omega)]
  refine X_call0 ((ring_InvMod_spec w a ha).mono ?_)
  rintro v w' ⟨rfl, rfl⟩
  simp only [WS, ↓reduceIte, Nat.reduceEqDiff, reduceCtorEq, wrap_u16 _ hil]
end Go.Proofs.Ytbaljbadlfopgaa.Fw
