import Derived.Test.YtbaljbadlfopgaaGfBY
import Derived.Test.YtbaljbadlfopgaaProg
import Derived.Test.YtbaljbadlfopgaaFwTY
import Derived.Test.YtbaljbadlfopgaaFwUY
set_option linter.all false
/- The additive transform, step by step, over indices. Plain maths. -/
set_option linter.unusedVariables false
namespace Go.Fw
section
variable {h i : Nat}
end
end Go.Fw

/- The basis X_j of layer 13 and its values. Plain maths. -/
set_option linter.unusedVariables false
namespace Go.Fw
end Go.Fw

set_option linter.unusedVariables false
set_option linter.unusedSimpArgs false
set_option maxRecDepth 100000
set_option maxHeartbeats 1000000
namespace Go.Proofs.Ytbaljbadlfopgaa.Fw
open Go Go.Fw Go.Proofs
attribute [local irreducible] stepI
theorem follows : Try.prog.follows .mixedOrders = true := by kernel_rfl
def c_gf16_Mul : C := .seq (.ops [⟨0, (some 4), none, .mov (.c (.int .u16 0)), []⟩]) (.seq (.ops [⟨0, (some 8), none, .mov (.t 0), []⟩, ⟨1, (some 9), none, .cnv .u64 (.t 8), []⟩, ⟨2, (some 10), none, .mov (.t 1), []⟩, ⟨3, (some 11), none, .cnv .u64 (.t 10), []⟩, ⟨4, (some 12), none, .call (.c (.func (.func 109) #[] #[])) [.t 9, .t 11, .c (.int .u64 65581)], []⟩, ⟨5, (some 7), none, .mov (.t 12), []⟩, ⟨6, (some 13), none, .ext (.t 7) 0, []⟩, ⟨7, (some 14), none, .ext (.t 7) 1, []⟩, ⟨8, (some 5), none, .mov (.t 13), []⟩, ⟨9, (some 6), none, .mov (.t 14), []⟩]) (.seq (.ops [⟨0, (some 15), none, .mov (.t 5), []⟩, ⟨1, (some 16), none, .cnv .u16 (.t 15), []⟩, ⟨2, (some 4), none, .mov (.t 16), []⟩]) .ret))
attribute [irreducible] c_gf16_Mul
theorem run_gf16_Mul {args : List Value} {w : World} {K : Value → World → Prop} (hn : args.length ≤ 17) (h : WP Try.prog c_gf16_Mul (endQ [.t 4] K) (initT args) w) : CallV Try.prog 70 args w K :=
  call_of follows Try.func70 (by kernel_rfl) (by kernel_rfl) hn h
def c_bits_Len64 : C := .seq (.ops [⟨0, (some 2), none, .mov (.c (.int .i64 0)), []⟩]) (.seq (.seq (.ops [⟨0, (some 3), none, .mov (.t 0), []⟩, ⟨1, (some 4), none, .bin .geq (.t 3) (.c (.int .u64 4294967296)), []⟩]) (.ite (.t 4) (.seq (.ops [⟨0, (some 5), none, .mov (.t 0), []⟩, ⟨1, (some 6), none, .bin .shr (.t 5) (.c (.int .u64 32)), []⟩, ⟨2, (some 0), none, .mov (.t 6), []⟩]) (.ops [⟨0, (some 2), none, .mov (.c (.int .i64 32)), []⟩])) .skip)) (.seq (.seq (.ops [⟨0, (some 7), none, .mov (.t 0), []⟩, ⟨1, (some 8), none, .bin .geq (.t 7) (.c (.int .u64 65536)), []⟩]) (.ite (.t 8) (.seq (.ops [⟨0, (some 9), none, .mov (.t 0), []⟩, ⟨1, (some 10), none, .bin .shr (.t 9) (.c (.int .u64 16)), []⟩, ⟨2, (some 0), none, .mov (.t 10), []⟩]) (.ops [⟨0, (some 11), none, .mov (.t 2), []⟩, ⟨1, (some 12), none, .bin .add (.t 11) (.c (.int .i64 16)), []⟩, ⟨2, (some 2), none, .mov (.t 12), []⟩])) .skip)) (.seq (.seq (.ops [⟨0, (some 13), none, .mov (.t 0), []⟩, ⟨1, (some 14), none, .bin .geq (.t 13) (.c (.int .u64 256)), []⟩]) (.ite (.t 14) (.seq (.ops [⟨0, (some 15), none, .mov (.t 0), []⟩, ⟨1, (some 16), none, .bin .shr (.t 15) (.c (.int .u64 8)), []⟩, ⟨2, (some 0), none, .mov (.t 16), []⟩]) (.ops [⟨0, (some 17), none, .mov (.t 2), []⟩, ⟨1, (some 18), none, .bin .add (.t 17) (.c (.int .i64 8)), []⟩, ⟨2, (some 2), none, .mov (.t 18), []⟩])) .skip)) (.seq (.ops [⟨0, (some 19), none, .mov (.t 2), []⟩, ⟨1, (some 20), none, .mov (.t 0), []⟩, ⟨2, (some 21), none, .cnv .u8 (.t 20), []⟩, ⟨3, (some 22), none, .ixt (.c (.string (.mk #[0, 1, 2, 2, 3, 3, 3, 3, 4, 4, 4, 4, 4, 4, 4, 4, 5, 5, 5, 5, 5, 5, 5, 5, 5, 5, 5, 5, 5, 5, 5, 5, 6, 6, 6, 6, 6, 6, 6, 6, 6, 6, 6, 6, 6, 6, 6, 6, 6, 6, 6, 6, 6, 6, 6, 6, 6, 6, 6, 6, 6, 6, 6, 6, 7, 7, 7, 7, 7, 7, 7, 7, 7, 7, 7, 7, 7, 7, 7, 7, 7, 7, 7, 7, 7, 7, 7, 7, 7, 7, 7, 7, 7, 7, 7, 7, 7, 7, 7, 7, 7, 7, 7, 7, 7, 7, 7, 7, 7, 7, 7, 7, 7, 7, 7, 7, 7, 7, 7, 7, 7, 7, 7, 7, 7, 7, 7, 7, 8, 8, 8, 8, 8, 8, 8, 8, 8, 8, 8, 8, 8, 8, 8, 8, 8, 8, 8, 8, 8, 8, 8, 8, 8, 8, 8, 8, 8, 8, 8, 8, 8, 8, 8, 8, 8, 8, 8, 8, 8, 8, 8, 8, 8, 8, 8, 8, 8, 8, 8, 8, 8, 8, 8, 8, 8, 8, 8, 8, 8, 8, 8, 8, 8, 8, 8, 8, 8, 8, 8, 8, 8, 8, 8, 8, 8, 8, 8, 8, 8, 8, 8, 8, 8, 8, 8, 8, 8, 8, 8, 8, 8, 8, 8, 8, 8, 8, 8, 8, 8, 8, 8, 8, 8, 8, 8, 8, 8, 8, 8, 8, 8, 8, 8, 8, 8, 8, 8, 8, 8, 8, 8, 8, 8, 8, 8, 8]))) (.t 21), []⟩, ⟨4, (some 23), none, .cnv .i64 (.t 22), []⟩, ⟨5, (some 24), none, .bin .add (.t 19) (.t 23), []⟩, ⟨6, (some 2), none, .mov (.t 24), []⟩]) .ret))))
attribute [irreducible] c_bits_Len64
theorem run_bits_Len64 {args : List Value} {w : World} {K : Value → World → Prop} (hn : args.length ≤ 25) (h : WP Try.prog c_bits_Len64 (endQ [.t 2] K) (initT args) w) : CallV Try.prog 105 args w K :=
  call_of follows Try.func105 (by kernel_rfl) (by kernel_rfl) hn h
def c_ring_MulMod : C := .seq (.ops [⟨0, (some 6), none, .mov (.c (.int .u64 0)), []⟩, ⟨1, (some 7), none, .mov (.c (.int .i64 0)), []⟩]) (.seq (.seq (.ops [⟨0, (some 8), none, .mov (.t 2), []⟩, ⟨1, (some 9), none, .call (.c (.func (.func 137) #[] #[])) [.t 8, .c (.int .i64 32)], []⟩, ⟨2, (some 10), none, .un .not (.t 9), []⟩]) (.ite (.t 10) (.seq (.ops [⟨0, (some 6), none, .mov (.c (.int .u64 0)), []⟩, ⟨1, (some 7), none, .mov (.c (.int .i64 11)), []⟩]) .ret) .skip)) (.seq (.ops [⟨0, (some 11), none, .mov (.t 0), []⟩, ⟨1, (some 12), none, .mov (.t 1), []⟩, ⟨2, (some 13), none, .mov (.t 2), []⟩, ⟨3, (some 14), none, .call (.c (.func (.func 138) #[] #[])) [.t 11, .t 12, .t 13], []⟩, ⟨4, (some 6), none, .mov (.t 14), []⟩, ⟨5, (some 7), none, .mov (.c (.int .i64 0)), []⟩]) .ret))
attribute [irreducible] c_ring_MulMod
theorem run_ring_MulMod {args : List Value} {w : World} {K : Value → World → Prop} (hn : args.length ≤ 15) (h : WP Try.prog c_ring_MulMod (endQ [.t 6, .t 7] K) (initT args) w) : CallV Try.prog 109 args w K :=
  call_of follows Try.func109 (by kernel_rfl) (by kernel_rfl) hn h
def c_ring_isModulus : C := .seq (.ops [⟨0, (some 4), none, .mov (.c (.bool false)), []⟩]) (.seq (.ops [⟨0, (some 6), none, .mov (.t 0), []⟩, ⟨1, (some 7), none, .call (.c (.func (.func 156) #[] #[])) [.t 6], []⟩, ⟨2, (some 5), none, .mov (.t 7), []⟩]) (.seq (.ops [⟨0, (some 8), none, .mov (.t 5), []⟩, ⟨1, (some 9), none, .bin .geq (.t 8) (.c (.int .i64 1)), []⟩, ⟨2, (some 10), none, .mov (.t 9), []⟩, ⟨3, (some 11), (some (10, true)), .mov (.t 5), []⟩, ⟨4, (some 12), (some (10, true)), .mov (.t 1), []⟩, ⟨5, (some 13), (some (10, true)), .bin .leq (.t 11) (.t 12), []⟩, ⟨6, (some 14), none, .pick (.t 10) (.t 13) (.c (.bool false)), []⟩, ⟨7, (some 4), none, .mov (.t 14), []⟩]) .ret))
attribute [irreducible] c_ring_isModulus
theorem run_ring_isModulus {args : List Value} {w : World} {K : Value → World → Prop} (hn : args.length ≤ 15) (h : WP Try.prog c_ring_isModulus (endQ [.t 4] K) (initT args) w) : CallV Try.prog 137 args w K :=
  call_of follows Try.func137 (by kernel_rfl) (by kernel_rfl) hn h
def c_ring_mulMod : C := .seq (.ops [⟨0, (some 6), none, .mov (.c (.int .u64 0)), []⟩]) (.seq (.ops [⟨0, (some 11), none, .mov (.t 0), []⟩, ⟨1, (some 12), none, .mov (.t 2), []⟩, ⟨2, (some 13), none, .call (.c (.func (.func 139) #[] #[])) [.t 11, .t 12], []⟩, ⟨3, (some 10), none, .mov (.t 13), []⟩, ⟨4, (some 14), none, .ext (.t 10) 0, []⟩, ⟨5, (some 15), none, .ext (.t 10) 1, []⟩, ⟨6, (some 0), none, .mov (.t 15), []⟩]) (.seq (.ops [⟨0, (some 17), none, .mov (.t 1), []⟩, ⟨1, (some 18), none, .mov (.t 2), []⟩, ⟨2, (some 19), none, .call (.c (.func (.func 139) #[] #[])) [.t 17, .t 18], []⟩, ⟨3, (some 16), none, .mov (.t 19), []⟩, ⟨4, (some 20), none, .ext (.t 16) 0, []⟩, ⟨5, (some 21), none, .ext (.t 16) 1, []⟩, ⟨6, (some 1), none, .mov (.t 21), []⟩]) (.seq (.ops [⟨0, (some 22), none, .mov (.t 2), []⟩, ⟨1, (some 23), none, .call (.c (.func (.func 156) #[] #[])) [.t 22], []⟩, ⟨2, (some 7), none, .mov (.t 23), []⟩]) (.seq (.ops [⟨0, (some 8), none, .mov (.c (.int .u64 0)), []⟩]) (.seq (.seq (.ops [⟨0, (some 24), none, .mov (.t 7), []⟩, ⟨1, (some 25), none, .bin .sub (.t 24) (.c (.int .i64 1)), []⟩, ⟨2, (some 9), none, .mov (.t 25), []⟩]) (.block 0 (.loop (.seq (.seq (.ops [⟨0, (some 26), none, .mov (.t 9), []⟩, ⟨1, (some 27), none, .bin .geq (.t 26) (.c (.int .i64 0)), []⟩]) (.ite (.t 27) .skip (.exit 0))) (.seq (.block 1 (.seq (.ops [⟨0, (some 30), none, .mov (.t 8), []⟩, ⟨1, (some 31), none, .bin .shl (.t 30) (.c (.int .u64 1)), []⟩, ⟨2, (some 8), none, .mov (.t 31), []⟩]) (.seq (.seq (.ops [⟨0, (some 32), none, .mov (.t 8), []⟩, ⟨1, (some 33), none, .mov (.t 7), []⟩, ⟨2, (some 34), none, .bin .shr (.t 32) (.t 33), []⟩, ⟨3, (some 35), none, .bin .and (.t 34) (.c (.int .u64 1)), []⟩, ⟨4, (some 36), none, .bin .eql (.t 35) (.c (.int .u64 1)), []⟩]) (.ite (.t 36) (.ops [⟨0, (some 37), none, .mov (.t 8), []⟩, ⟨1, (some 38), none, .mov (.t 2), []⟩, ⟨2, (some 39), none, .bin .xor (.t 37) (.t 38), []⟩, ⟨3, (some 8), none, .mov (.t 39), []⟩]) .skip)) (.seq (.ops [⟨0, (some 40), none, .mov (.t 1), []⟩, ⟨1, (some 41), none, .mov (.t 9), []⟩, ⟨2, (some 42), none, .bin .shr (.t 40) (.t 41), []⟩, ⟨3, (some 43), none, .bin .and (.t 42) (.c (.int .u64 1)), []⟩, ⟨4, (some 44), none, .bin .eql (.t 43) (.c (.int .u64 1)), []⟩]) (.ite (.t 44) (.ops [⟨0, (some 45), none, .mov (.t 8), []⟩, ⟨1, (some 46), none, .mov (.t 0), []⟩, ⟨2, (some 47), none, .bin .xor (.t 45) (.t 46), []⟩, ⟨3, (some 8), none, .mov (.t 47), []⟩]) .skip))))) (.ops [⟨0, (some 28), none, .mov (.t 9), []⟩, ⟨1, (some 29), none, .bin .sub (.t 28) (.c (.int .i64 1)), []⟩, ⟨2, (some 9), none, .mov (.t 29), []⟩])))))) (.seq (.ops [⟨0, (some 48), none, .mov (.t 8), []⟩, ⟨1, (some 6), none, .mov (.t 48), []⟩]) .ret))))))
attribute [irreducible] c_ring_mulMod
theorem run_ring_mulMod {args : List Value} {w : World} {K : Value → World → Prop} (hn : args.length ≤ 49) (h : WP Try.prog c_ring_mulMod (endQ [.t 6] K) (initT args) w) : CallV Try.prog 138 args w K :=
  call_of follows Try.func138 (by kernel_rfl) (by kernel_rfl) hn h
def c_ring_divMod : C := .seq (.ops [⟨0, (some 4), none, .mov (.c (.int .u64 0)), []⟩, ⟨1, (some 5), none, .mov (.c (.int .u64 0)), []⟩]) (.seq (.ops [⟨0, (some 8), none, .mov (.t 1), []⟩, ⟨1, (some 9), none, .call (.c (.func (.func 156) #[] #[])) [.t 8], []⟩, ⟨2, (some 6), none, .mov (.t 9), []⟩]) (.block 0 (.loop (.block 1 (.seq (.ops [⟨0, (some 10), none, .mov (.t 0), []⟩, ⟨1, (some 11), none, .call (.c (.func (.func 156) #[] #[])) [.t 10], []⟩, ⟨2, (some 12), none, .mov (.t 6), []⟩, ⟨3, (some 13), none, .bin .sub (.t 11) (.t 12), []⟩, ⟨4, (some 7), none, .mov (.t 13), []⟩]) (.seq (.seq (.ops [⟨0, (some 14), none, .mov (.t 7), []⟩, ⟨1, (some 15), none, .bin .lss (.t 14) (.c (.int .i64 0)), []⟩]) (.ite (.t 15) (.seq (.ops [⟨0, (some 16), none, .mov (.t 4), []⟩, ⟨1, (some 17), none, .mov (.t 0), []⟩, ⟨2, (some 4), none, .mov (.t 16), []⟩, ⟨3, (some 5), none, .mov (.t 17), []⟩]) .ret) .skip)) (.seq (.ops [⟨0, (some 18), none, .mov (.t 4), []⟩, ⟨1, (some 19), none, .mov (.t 7), []⟩, ⟨2, (some 20), none, .bin .shl (.c (.int .u64 1)) (.t 19), []⟩, ⟨3, (some 21), none, .bin .or (.t 18) (.t 20), []⟩, ⟨4, (some 4), none, .mov (.t 21), []⟩]) (.ops [⟨0, (some 22), none, .mov (.t 0), []⟩, ⟨1, (some 23), none, .mov (.t 1), []⟩, ⟨2, (some 24), none, .mov (.t 7), []⟩, ⟨3, (some 25), none, .bin .shl (.t 23) (.t 24), []⟩, ⟨4, (some 26), none, .bin .xor (.t 22) (.t 25), []⟩, ⟨5, (some 0), none, .mov (.t 26), []⟩]))))))))
attribute [irreducible] c_ring_divMod
theorem run_ring_divMod {args : List Value} {w : World} {K : Value → World → Prop} (hn : args.length ≤ 27) (h : WP Try.prog c_ring_divMod (endQ [.t 4, .t 5] K) (initT args) w) : CallV Try.prog 139 args w K :=
  call_of follows Try.func139 (by kernel_rfl) (by kernel_rfl) hn h
def c_ring_Degree : C := .seq (.ops [⟨0, (some 2), none, .mov (.c (.int .i64 0)), []⟩]) (.seq (.ops [⟨0, (some 3), none, .mov (.t 0), []⟩, ⟨1, (some 4), none, .call (.c (.func (.func 105) #[] #[])) [.t 3], []⟩, ⟨2, (some 5), none, .bin .sub (.t 4) (.c (.int .i64 1)), []⟩, ⟨3, (some 2), none, .mov (.t 5), []⟩]) .ret)
attribute [irreducible] c_ring_Degree
theorem run_ring_Degree {args : List Value} {w : World} {K : Value → World → Prop} (hn : args.length ≤ 6) (h : WP Try.prog c_ring_Degree (endQ [.t 2] K) (initT args) w) : CallV Try.prog 156 args w K :=
  call_of follows Try.func156 (by kernel_rfl) (by kernel_rfl) hn h
end Go.Proofs.Ytbaljbadlfopgaa.Fw
namespace Go.Proofs.Ytbaljbadlfopgaa.Fw
open Go Go.Fw Go.Proofs Go.RowKit

theorem shr32 (x : Nat) : shrV .u64 (x : Int) 32 = ((x >>> 32 : Nat) : Int) := shr_nat .u64 x 32 (by decide)
theorem shr16 (x : Nat) : shrV .u64 (x : Int) 16 = ((x >>> 16 : Nat) : Int) := shr_nat .u64 x 16 (by decide)
theorem shr8 (x : Nat) : shrV .u64 (x : Int) 8 = ((x >>> 8 : Nat) : Int) := shr_nat .u64 x 8 (by decide)
theorem blen_cut (x k : Nat) (h : 2 ^ k ≤ x) : blen x = k + blen (x >>> k) := by
  have := blen_le h
  rw [blen_shr (by omega)]; omega
theorem cut_lt (x k m : Nat) (h : x < 2 ^ (m + k)) : x >>> k < 2 ^ m := by
  rw [Nat.shiftRight_eq_div_pow, Nat.div_lt_iff_lt_mul (Nat.two_pow_pos k), ← Nat.pow_add]; exact h
theorem len_tab (i : Nat) (h : i < 256) : ((#[0, 1, 2, 2, 3, 3, 3, 3, 4, 4, 4, 4, 4, 4, 4, 4, 5, 5, 5, 5, 5, 5, 5, 5, 5, 5, 5, 5, 5, 5, 5, 5, 6, 6, 6, 6, 6, 6, 6, 6, 6, 6, 6, 6, 6, 6, 6, 6, 6, 6, 6, 6, 6, 6, 6, 6, 6, 6, 6, 6, 6, 6, 6, 6, 7, 7, 7, 7, 7, 7, 7, 7, 7, 7, 7, 7, 7, 7, 7, 7, 7, 7, 7, 7, 7, 7, 7, 7, 7, 7, 7, 7, 7, 7, 7, 7, 7, 7, 7, 7, 7, 7, 7, 7, 7, 7, 7, 7, 7, 7, 7, 7, 7, 7, 7, 7, 7, 7, 7, 7, 7, 7, 7, 7, 7, 7, 7, 7, 8, 8, 8, 8, 8, 8, 8, 8, 8, 8, 8, 8, 8, 8, 8, 8, 8, 8, 8, 8, 8, 8, 8, 8, 8, 8, 8, 8, 8, 8, 8, 8, 8, 8, 8, 8, 8, 8, 8, 8, 8, 8, 8, 8, 8, 8, 8, 8, 8, 8, 8, 8, 8, 8, 8, 8, 8, 8, 8, 8, 8, 8, 8, 8, 8, 8, 8, 8, 8, 8, 8, 8, 8, 8, 8, 8, 8, 8, 8, 8, 8, 8, 8, 8, 8, 8, 8, 8, 8, 8, 8, 8, 8, 8, 8, 8, 8, 8, 8, 8, 8, 8, 8, 8, 8, 8, 8, 8, 8, 8, 8, 8, 8, 8, 8, 8, 8, 8, 8, 8, 8, 8, 8, 8, 8, 8, 8, 8] : Array UInt8).getD i 0).toNat = blen i := by
  have key : ∀ i, i < 256 → ((#[0, 1, 2, 2, 3, 3, 3, 3, 4, 4, 4, 4, 4, 4, 4, 4, 5, 5, 5, 5, 5, 5, 5, 5, 5, 5, 5, 5, 5, 5, 5, 5, 6, 6, 6, 6, 6, 6, 6, 6, 6, 6, 6, 6, 6, 6, 6, 6, 6, 6, 6, 6, 6, 6, 6, 6, 6, 6, 6, 6, 6, 6, 6, 6, 7, 7, 7, 7, 7, 7, 7, 7, 7, 7, 7, 7, 7, 7, 7, 7, 7, 7, 7, 7, 7, 7, 7, 7, 7, 7, 7, 7, 7, 7, 7, 7, 7, 7, 7, 7, 7, 7, 7, 7, 7, 7, 7, 7, 7, 7, 7, 7, 7, 7, 7, 7, 7, 7, 7, 7, 7, 7, 7, 7, 7, 7, 7, 7, 8, 8, 8, 8, 8, 8, 8, 8, 8, 8, 8, 8, 8, 8, 8, 8, 8, 8, 8, 8, 8, 8, 8, 8, 8, 8, 8, 8, 8, 8, 8, 8, 8, 8, 8, 8, 8, 8, 8, 8, 8, 8, 8, 8, 8, 8, 8, 8, 8, 8, 8, 8, 8, 8, 8, 8, 8, 8, 8, 8, 8, 8, 8, 8, 8, 8, 8, 8, 8, 8, 8, 8, 8, 8, 8, 8, 8, 8, 8, 8, 8, 8, 8, 8, 8, 8, 8, 8, 8, 8, 8, 8, 8, 8, 8, 8, 8, 8, 8, 8, 8, 8, 8, 8, 8, 8, 8, 8, 8, 8, 8, 8, 8, 8, 8, 8, 8, 8, 8, 8, 8, 8, 8, 8, 8, 8, 8, 8] : Array UInt8).getD i 0).toNat = blen i := by decide +kernel
  exact key i h
theorem bits_Len64_spec (w : World) (x : Nat) (hx : x < 18446744073709551616) : CallV Try.prog 105 [.int .u64 (x : Int)] w fun v w' => v = .int .i64 (blen x : Int) ∧ w' = w := by
  have fin : ∀ (y n : Nat), y < 256 → n ≤ 56 → blen x = n + blen y → ∀ (i : Nat), i = blen y → IntKind.i64.wrap ((n : Int) + IntKind.i64.wrap (i : Int)) = (blen x : Int) := by
    intro y n hy hn he i hi
    have : blen y ≤ 8 := blen_lt (by simpa using hy)
    rw [wrap_64 i (by omega), show (n : Int) + (i : Int) = ((n + i : Nat) : Int) by omega, wrap_64 _ (by omega), he, hi]
  refine run_bits_Len64 (by simp) ?_
  by_cases h1 : 4294967296 ≤ x
  · have d1 : decide ((4294967296 : Int) ≤ ((x : Nat) : Int)) = true := decide_eq_true (by omega)
    have e1 := blen_cut x 32 (by simpa using h1)
    have l1 : (x >>> 32) < 4294967296 := cut_lt x 32 32 (by simp; omega)
    by_cases h2 : 65536 ≤ (x >>> 32)
    · have d2 : decide ((65536 : Int) ≤ (((x >>> 32) : Nat) : Int)) = true := decide_eq_true (by omega)
      have e2 := blen_cut (x >>> 32) 16 (by simpa using h2)
      have l2 : ((x >>> 32) >>> 16) < 65536 := cut_lt (x >>> 32) 16 16 (by simp; omega)
      by_cases h3 : 256 ≤ ((x >>> 32) >>> 16)
      · have d3 : decide ((256 : Int) ≤ ((((x >>> 32) >>> 16) : Nat) : Int)) = true := decide_eq_true (by omega)
        have e3 := blen_cut ((x >>> 32) >>> 16) 8 (by simpa using h3)
        have l3 : (((x >>> 32) >>> 16) >>> 8) < 256 := cut_lt ((x >>> 32) >>> 16) 8 8 (by simp; omega)
        have l4 : (((x >>> 32) >>> 16) >>> 8) < 256 := by omega
        simp only [c_bits_Len64, WS, List.getElem_cons_zero, List.getElem_cons_succ, Option.isNone_some, Option.isNone_none, List.getD_cons_zero, List.getD_cons_succ, I.at, atL, atO, atP, evp, evs, retV, ↓reduceIte, Nat.reduceEqDiff, reduceCtorEq, X_shr, Int.reduceLE, shr32, shr16, shr8, d1, d2, d3, wrap_u8 _ l4, Int.zero_add]
        rw [X_ixt (by exact l4)]
        simp only [WS, List.getElem_cons_zero, List.getElem_cons_succ, Option.isNone_some, Option.isNone_none, List.getD_cons_zero, List.getD_cons_succ, I.at, atL, atO, atP, evp, evs, retV, ↓reduceIte, Nat.reduceEqDiff, reduceCtorEq]
        try simp only [show IntKind.i64.wrap (32 + 16) = 48 from rfl, show IntKind.i64.wrap (32 + 8) = 40 from rfl, show IntKind.i64.wrap (48 + 8) = 56 from rfl, show IntKind.i64.wrap (0 + 16) = 16 from rfl, show IntKind.i64.wrap (0 + 8) = 8 from rfl, show IntKind.i64.wrap (16 + 8) = 24 from rfl, show IntKind.i64.wrap 16 = 16 from rfl, show IntKind.i64.wrap 8 = 8 from rfl]
        exact congrArg (Value.int IntKind.i64) (fin _ 56 l4 (by omega) (by omega) _ (len_tab _ l4))
      · have d3 : decide ((256 : Int) ≤ ((((x >>> 32) >>> 16) : Nat) : Int)) = false := decide_eq_false (by omega)
        have l4 : ((x >>> 32) >>> 16) < 256 := by omega
        simp only [c_bits_Len64, WS, List.getElem_cons_zero, List.getElem_cons_succ, Option.isNone_some, Option.isNone_none, List.getD_cons_zero, List.getD_cons_succ, I.at, atL, atO, atP, evp, evs, retV, ↓reduceIte, Nat.reduceEqDiff, reduceCtorEq, X_shr, Int.reduceLE, shr32, shr16, shr8, d1, d2, d3, wrap_u8 _ l4, Int.zero_add]
        rw [X_ixt (by exact l4)]
        simp only [WS, List.getElem_cons_zero, List.getElem_cons_succ, Option.isNone_some, Option.isNone_none, List.getD_cons_zero, List.getD_cons_succ, I.at, atL, atO, atP, evp, evs, retV, ↓reduceIte, Nat.reduceEqDiff, reduceCtorEq]
        try simp only [show IntKind.i64.wrap (32 + 16) = 48 from rfl, show IntKind.i64.wrap (32 + 8) = 40 from rfl, show IntKind.i64.wrap (48 + 8) = 56 from rfl, show IntKind.i64.wrap (0 + 16) = 16 from rfl, show IntKind.i64.wrap (0 + 8) = 8 from rfl, show IntKind.i64.wrap (16 + 8) = 24 from rfl, show IntKind.i64.wrap 16 = 16 from rfl, show IntKind.i64.wrap 8 = 8 from rfl]
        exact congrArg (Value.int IntKind.i64) (fin _ 48 l4 (by omega) (by omega) _ (len_tab _ l4))
    · have d2 : decide ((65536 : Int) ≤ (((x >>> 32) : Nat) : Int)) = false := decide_eq_false (by omega)
      by_cases h3 : 256 ≤ (x >>> 32)
      · have d3 : decide ((256 : Int) ≤ (((x >>> 32) : Nat) : Int)) = true := decide_eq_true (by omega)
        have e3 := blen_cut (x >>> 32) 8 (by simpa using h3)
        have l3 : ((x >>> 32) >>> 8) < 256 := cut_lt (x >>> 32) 8 8 (by simp; omega)
        have l4 : ((x >>> 32) >>> 8) < 256 := by omega
        simp only [c_bits_Len64, WS, List.getElem_cons_zero, List.getElem_cons_succ, Option.isNone_some, Option.isNone_none, List.getD_cons_zero, List.getD_cons_succ, I.at, atL, atO, atP, evp, evs, retV, ↓reduceIte, Nat.reduceEqDiff, reduceCtorEq, X_shr, Int.reduceLE, shr32, shr16, shr8, d1, d2, d3, wrap_u8 _ l4, Int.zero_add]
        rw [X_ixt (by exact l4)]
        simp only [WS, List.getElem_cons_zero, List.getElem_cons_succ, Option.isNone_some, Option.isNone_none, List.getD_cons_zero, List.getD_cons_succ, I.at, atL, atO, atP, evp, evs, retV, ↓reduceIte, Nat.reduceEqDiff, reduceCtorEq]
        try simp only [show IntKind.i64.wrap (32 + 16) = 48 from rfl, show IntKind.i64.wrap (32 + 8) = 40 from rfl, show IntKind.i64.wrap (48 + 8) = 56 from rfl, show IntKind.i64.wrap (0 + 16) = 16 from rfl, show IntKind.i64.wrap (0 + 8) = 8 from rfl, show IntKind.i64.wrap (16 + 8) = 24 from rfl, show IntKind.i64.wrap 16 = 16 from rfl, show IntKind.i64.wrap 8 = 8 from rfl]
        exact congrArg (Value.int IntKind.i64) (fin _ 40 l4 (by omega) (by omega) _ (len_tab _ l4))
      · have d3 : decide ((256 : Int) ≤ (((x >>> 32) : Nat) : Int)) = false := decide_eq_false (by omega)
        have l4 : (x >>> 32) < 256 := by omega
        simp only [c_bits_Len64, WS, List.getElem_cons_zero, List.getElem_cons_succ, Option.isNone_some, Option.isNone_none, List.getD_cons_zero, List.getD_cons_succ, I.at, atL, atO, atP, evp, evs, retV, ↓reduceIte, Nat.reduceEqDiff, reduceCtorEq, X_shr, Int.reduceLE, shr32, shr16, shr8, d1, d2, d3, wrap_u8 _ l4, Int.zero_add]
        rw [X_ixt (by exact l4)]
        simp only [WS, List.getElem_cons_zero, List.getElem_cons_succ, Option.isNone_some, Option.isNone_none, List.getD_cons_zero, List.getD_cons_succ, I.at, atL, atO, atP, evp, evs, retV, ↓reduceIte, Nat.reduceEqDiff, reduceCtorEq]
        try simp only [show IntKind.i64.wrap (32 + 16) = 48 from rfl, show IntKind.i64.wrap (32 + 8) = 40 from rfl, show IntKind.i64.wrap (48 + 8) = 56 from rfl, show IntKind.i64.wrap (0 + 16) = 16 from rfl, show IntKind.i64.wrap (0 + 8) = 8 from rfl, show IntKind.i64.wrap (16 + 8) = 24 from rfl, show IntKind.i64.wrap 16 = 16 from rfl, show IntKind.i64.wrap 8 = 8 from rfl]
        exact congrArg (Value.int IntKind.i64) (fin _ 32 l4 (by omega) (by omega) _ (len_tab _ l4))
  · have d1 : decide ((4294967296 : Int) ≤ ((x : Nat) : Int)) = false := decide_eq_false (by omega)
    by_cases h2 : 65536 ≤ x
    · have d2 : decide ((65536 : Int) ≤ ((x : Nat) : Int)) = true := decide_eq_true (by omega)
      have e2 := blen_cut x 16 (by simpa using h2)
      have l2 : (x >>> 16) < 65536 := cut_lt x 16 16 (by simp; omega)
      by_cases h3 : 256 ≤ (x >>> 16)
      · have d3 : decide ((256 : Int) ≤ (((x >>> 16) : Nat) : Int)) = true := decide_eq_true (by omega)
        have e3 := blen_cut (x >>> 16) 8 (by simpa using h3)
        have l3 : ((x >>> 16) >>> 8) < 256 := cut_lt (x >>> 16) 8 8 (by simp; omega)
        have l4 : ((x >>> 16) >>> 8) < 256 := by omega
        simp only [c_bits_Len64, WS, List.getElem_cons_zero, List.getElem_cons_succ, Option.isNone_some, Option.isNone_none, List.getD_cons_zero, List.getD_cons_succ, I.at, atL, atO, atP, evp, evs, retV, ↓reduceIte, Nat.reduceEqDiff, reduceCtorEq, X_shr, Int.reduceLE, shr32, shr16, shr8, d1, d2, d3, wrap_u8 _ l4, Int.zero_add]
        rw [X_ixt (by exact l4)]
        simp only [WS, List.getElem_cons_zero, List.getElem_cons_succ, Option.isNone_some, Option.isNone_none, List.getD_cons_zero, List.getD_cons_succ, I.at, atL, atO, atP, evp, evs, retV, ↓reduceIte, Nat.reduceEqDiff, reduceCtorEq]
        try simp only [show IntKind.i64.wrap (32 + 16) = 48 from rfl, show IntKind.i64.wrap (32 + 8) = 40 from rfl, show IntKind.i64.wrap (48 + 8) = 56 from rfl, show IntKind.i64.wrap (0 + 16) = 16 from rfl, show IntKind.i64.wrap (0 + 8) = 8 from rfl, show IntKind.i64.wrap (16 + 8) = 24 from rfl, show IntKind.i64.wrap 16 = 16 from rfl, show IntKind.i64.wrap 8 = 8 from rfl]
        exact congrArg (Value.int IntKind.i64) (fin _ 24 l4 (by omega) (by omega) _ (len_tab _ l4))
      · have d3 : decide ((256 : Int) ≤ (((x >>> 16) : Nat) : Int)) = false := decide_eq_false (by omega)
        have l4 : (x >>> 16) < 256 := by omega
        simp only [c_bits_Len64, WS, List.getElem_cons_zero, List.getElem_cons_succ, Option.isNone_some, Option.isNone_none, List.getD_cons_zero, List.getD_cons_succ, I.at, atL, atO, atP, evp, evs, retV, ↓reduceIte, Nat.reduceEqDiff, reduceCtorEq, X_shr, Int.reduceLE, shr32, shr16, shr8, d1, d2, d3, wrap_u8 _ l4, Int.zero_add]
        rw [X_ixt (by exact l4)]
        simp only [WS, List.getElem_cons_zero, List.getElem_cons_succ, Option.isNone_some, Option.isNone_none, List.getD_cons_zero, List.getD_cons_succ, I.at, atL, atO, atP, evp, evs, retV, ↓reduceIte, Nat.reduceEqDiff, reduceCtorEq]
        try simp only [show IntKind.i64.wrap (32 + 16) = 48 from rfl, show IntKind.i64.wrap (32 + 8) = 40 from rfl, show IntKind.i64.wrap (48 + 8) = 56 from rfl, show IntKind.i64.wrap (0 + 16) = 16 from rfl, show IntKind.i64.wrap (0 + 8) = 8 from rfl, show IntKind.i64.wrap (16 + 8) = 24 from rfl, show IntKind.i64.wrap 16 = 16 from rfl, show IntKind.i64.wrap 8 = 8 from rfl]
        exact congrArg (Value.int IntKind.i64) (fin _ 16 l4 (by omega) (by omega) _ (len_tab _ l4))
    · have d2 : decide ((65536 : Int) ≤ ((x : Nat) : Int)) = false := decide_eq_false (by omega)
      by_cases h3 : 256 ≤ x
      · have d3 : decide ((256 : Int) ≤ ((x : Nat) : Int)) = true := decide_eq_true (by omega)
        have e3 := blen_cut x 8 (by simpa using h3)
        have l3 : (x >>> 8) < 256 := cut_lt x 8 8 (by simp; omega)
        have l4 : (x >>> 8) < 256 := by omega
        simp only [c_bits_Len64, WS, List.getElem_cons_zero, List.getElem_cons_succ, Option.isNone_some, Option.isNone_none, List.getD_cons_zero, List.getD_cons_succ, I.at, atL, atO, atP, evp, evs, retV, ↓reduceIte, Nat.reduceEqDiff, reduceCtorEq, X_shr, Int.reduceLE, shr32, shr16, shr8, d1, d2, d3, wrap_u8 _ l4, Int.zero_add]
        rw [X_ixt (by exact l4)]
        simp only [WS, List.getElem_cons_zero, List.getElem_cons_succ, Option.isNone_some, Option.isNone_none, List.getD_cons_zero, List.getD_cons_succ, I.at, atL, atO, atP, evp, evs, retV, ↓reduceIte, Nat.reduceEqDiff, reduceCtorEq]
        try simp only [show IntKind.i64.wrap (32 + 16) = 48 from rfl, show IntKind.i64.wrap (32 + 8) = 40 from rfl, show IntKind.i64.wrap (48 + 8) = 56 from rfl, show IntKind.i64.wrap (0 + 16) = 16 from rfl, show IntKind.i64.wrap (0 + 8) = 8 from rfl, show IntKind.i64.wrap (16 + 8) = 24 from rfl, show IntKind.i64.wrap 16 = 16 from rfl, show IntKind.i64.wrap 8 = 8 from rfl]
        exact congrArg (Value.int IntKind.i64) (fin _ 8 l4 (by omega) (by omega) _ (len_tab _ l4))
      · have d3 : decide ((256 : Int) ≤ ((x : Nat) : Int)) = false := decide_eq_false (by omega)
        have l4 : x < 256 := by omega
        simp only [c_bits_Len64, WS, List.getElem_cons_zero, List.getElem_cons_succ, Option.isNone_some, Option.isNone_none, List.getD_cons_zero, List.getD_cons_succ, I.at, atL, atO, atP, evp, evs, retV, ↓reduceIte, Nat.reduceEqDiff, reduceCtorEq, X_shr, Int.reduceLE, shr32, shr16, shr8, d1, d2, d3, wrap_u8 _ l4, Int.zero_add]
        rw [X_ixt (by exact l4)]
        simp only [WS, List.getElem_cons_zero, List.getElem_cons_succ, Option.isNone_some, Option.isNone_none, List.getD_cons_zero, List.getD_cons_succ, I.at, atL, atO, atP, evp, evs, retV, ↓reduceIte, Nat.reduceEqDiff, reduceCtorEq]
        try simp only [show IntKind.i64.wrap (32 + 16) = 48 from rfl, show IntKind.i64.wrap (32 + 8) = 40 from rfl, show IntKind.i64.wrap (48 + 8) = 56 from rfl, show IntKind.i64.wrap (0 + 16) = 16 from rfl, show IntKind.i64.wrap (0 + 8) = 8 from rfl, show IntKind.i64.wrap (16 + 8) = 24 from rfl, show IntKind.i64.wrap 16 = 16 from rfl, show IntKind.i64.wrap 8 = 8 from rfl]
        exact congrArg (Value.int IntKind.i64) (fin _ 0 l4 (by omega) (by omega) _ (len_tab _ l4))
theorem ring_Degree_spec (w : World) (x : Nat) (hx : x < 18446744073709551616) : CallV Try.prog 156 [.int .u64 (x : Int)] w fun v w' => v = .int .i64 ((blen x : Int) - 1) ∧ w' = w := by
  have hb := blen_lt (m := 64) (n := x) (by simpa using hx)
  refine run_ring_Degree (by simp) ?_
  simp only [c_ring_Degree, WS, List.getElem_cons_zero, List.getElem_cons_succ, Option.isNone_some, Option.isNone_none, List.getD_cons_zero, List.getD_cons_succ, I.at, atL, atO, atP, evp, evs, retV, ↓reduceIte, Nat.reduceEqDiff, reduceCtorEq]
  refine X_call0 ((bits_Len64_spec w x hx).mono ?_)
  rintro v w' ⟨rfl, rfl⟩
  simp only [WS, List.getElem_cons_zero, List.getElem_cons_succ, Option.isNone_some, Option.isNone_none, List.getD_cons_zero, List.getD_cons_succ, I.at, atL, atO, atP, evp, evs, retV, ↓reduceIte, Nat.reduceEqDiff, reduceCtorEq]
  rw [wrap_id (by omega) (by omega)]
theorem ring_isModulus_spec (w : World) (x m : Nat) (hx : x < 18446744073709551616) (hm : m < 100) : CallV Try.prog 137 [.int .u64 (x : Int), .int .i64 (m : Int)] w fun v w' => v = .bool (decide (2 ≤ blen x ∧ blen x ≤ m + 1)) ∧ w' = w := by
  refine run_ring_isModulus (by simp) ?_
  simp only [c_ring_isModulus, WS, List.getElem_cons_zero, List.getElem_cons_succ, Option.isNone_some, Option.isNone_none, List.getD_cons_zero, List.getD_cons_succ, I.at, atL, atO, atP, evp, evs, retV, ↓reduceIte, Nat.reduceEqDiff, reduceCtorEq]
  refine X_call0 ((ring_Degree_spec w x hx).mono ?_)
  rintro v w' ⟨rfl, rfl⟩
  by_cases h1 : 2 ≤ blen x
  · have d1 : decide ((1 : Int) ≤ (blen x : Int) - 1) = true := decide_eq_true (by omega)
    have d2 : decide ((blen x : Int) - 1 ≤ (m : Int)) = decide (blen x ≤ m + 1) := decide_eq_decide.2 (by omega)
    simp only [WS, List.getElem_cons_zero, List.getElem_cons_succ, Option.isNone_some, Option.isNone_none, List.getD_cons_zero, List.getD_cons_succ, I.at, atL, atO, atP, evp, evs, retV, ↓reduceIte, Nat.reduceEqDiff, reduceCtorEq, d1, d2, h1]
  · have d1 : decide ((1 : Int) ≤ (blen x : Int) - 1) = false := decide_eq_false (by omega)
    simp only [WS, List.getElem_cons_zero, List.getElem_cons_succ, Option.isNone_some, Option.isNone_none, List.getD_cons_zero, List.getD_cons_succ, I.at, atL, atO, atP, evp, evs, retV, ↓reduceIte, Nat.reduceEqDiff, reduceCtorEq, d1, h1, false_and]
/-- Division of polynomials over GF(2): nothing to do where the degree is smaller. -/
theorem ring_divMod_small (w : World) (x p : Nat) (hx : x < 18446744073709551616) (hp : p < 18446744073709551616) (h : blen x < blen p) : CallV Try.prog 139 [.int .u64 (x : Int), .int .u64 (p : Int)] w fun v w' => v = .tuple #[.int .u64 0, .int .u64 (x : Int)] ∧ w' = w := by
  have hb := blen_lt (m := 64) (n := x) (by simpa using hx)
  have hbp := blen_lt (m := 64) (n := p) (by simpa using hp)
  refine run_ring_divMod (by simp) ?_
  simp only [c_ring_divMod, WS, List.getElem_cons_zero, List.getElem_cons_succ, Option.isNone_some, Option.isNone_none, List.getD_cons_zero, List.getD_cons_succ, I.at, atL, atO, atP, evp, evs, retV, ↓reduceIte, Nat.reduceEqDiff, reduceCtorEq]
  refine X_call0 ((ring_Degree_spec w p hp).mono ?_)
  rintro v w' ⟨rfl, rfl⟩
  simp only [WS, List.getElem_cons_zero, List.getElem_cons_succ, Option.isNone_some, Option.isNone_none, List.getD_cons_zero, List.getD_cons_succ, I.at, atL, atO, atP, evp, evs, retV, ↓reduceIte, Nat.reduceEqDiff, reduceCtorEq]
  refine loop_of (fun t w => w = w' ∧ t 0 = .int .u64 (x : Int) ∧ t 1 = .int .u64 (p : Int) ∧ t 4 = .int .u64 0 ∧ t 6 = .int .i64 ((blen p : Int) - 1)) (fun _ _ => 0) ⟨rfl, rfl, rfl, rfl, rfl⟩ ?_
  rintro t w ⟨rfl, h0, h1, h4, h6⟩
  simp only [WS, List.getElem_cons_zero, List.getElem_cons_succ, Option.isNone_some, Option.isNone_none, List.getD_cons_zero, List.getD_cons_succ, I.at, atL, atO, atP, evp, evs, retV, ↓reduceIte, Nat.reduceEqDiff, reduceCtorEq, h0, h1, h4, h6]
  refine X_call0 ((ring_Degree_spec w x hx).mono ?_)
  rintro v w' ⟨rfl, rfl⟩
  have e : IntKind.i64.wrap ((blen x : Int) - 1 - ((blen p : Int) - 1)) = (blen x : Int) - (blen p : Int) := by rw [wrap_id (by omega) (by omega)]; omega
  have d1 : decide ((blen x : Int) - (blen p : Int) < 0) = true := decide_eq_true (by omega)
  simp only [WS, List.getElem_cons_zero, List.getElem_cons_succ, Option.isNone_some, Option.isNone_none, List.getD_cons_zero, List.getD_cons_succ, I.at, atL, atO, atP, evp, evs, retV, ↓reduceIte, Nat.reduceEqDiff, reduceCtorEq, h0, h1, h4, h6, e, d1]
theorem and1_u64 (a m : Nat) (ha : a < 2 ^ 64) (hm : m ≤ 64) : bitsOp .and .u64 (shrV .u64 (a : Int) (m : Int)) 1 = if a.testBit m then 1 else 0 := by
  rw [shr_nat .u64 a m hm]
  have h1 : a >>> m ≤ a := by rw [Nat.shiftRight_eq_div_pow]; exact Nat.div_le_self _ _
  have := bits_and fits_u64 (a := a >>> m) (b := 1) (by omega) (by decide)
  rw [and_one_shr] at this
  rw [show (1 : Int) = ((1 : Nat) : Int) from rfl, this]
  split <;> rfl
theorem mx16_bit (s : BitVec 16) : (s.toNat <<< 1).testBit 16 = s.msb := by
  rw [Nat.testBit_shiftLeft]
  simp [BitVec.msb_eq_getLsbD_last, BitVec.getLsbD]
theorem mx16_val (s : BitVec 16) : (if s.msb then (s.toNat <<< 1) ^^^ 65581 else s.toNat <<< 1) = (mx r16 s).toNat := by
  have hs := s.isLt
  unfold mx
  have hm : s.msb = decide (32768 ≤ s.toNat) := by rw [BitVec.msb_eq_decide]
  have e0 : s.toNat <<< 1 = 2 * s.toNat := by rw [Nat.shiftLeft_eq]; omega
  rw [e0]
  by_cases h : 32768 ≤ s.toNat
  · rw [hm, decide_eq_true h, if_pos rfl, if_pos rfl, BitVec.toNat_xor, BitVec.toNat_shiftLeft, e0]
    have e1 : (2 * s.toNat ^^^ 65581) / 2 ^ 16 = 0 := by
      rw [← Nat.shiftRight_eq_div_pow, Nat.shiftRight_xor_distrib, Nat.shiftRight_eq_div_pow, Nat.shiftRight_eq_div_pow, show 2 * s.toNat / 2 ^ 16 = 1 by omega]; rfl
    have e2 : (2 * s.toNat ^^^ 65581) % 2 ^ 16 = (2 * s.toNat % 2 ^ 16) ^^^ 45 := by rw [Nat.xor_mod_two_pow]
    have e3 : r16.toNat = 45 := rfl
    rw [e3, ← e2]
    omega
  · rw [hm, decide_eq_false h]
    simp only [Bool.false_eq_true, if_false]
    rw [BitVec.toNat_shiftLeft, e0]
    omega
theorem ring_mulMod_spec (w : World) (a b : El 16) : CallV Try.prog 138 [.int .u64 (a.v.toNat : Int), .int .u64 (b.v.toNat : Int), .int .u64 65581] w fun v w' => v = .int .u64 ((a * b).v.toNat : Int) ∧ w' = w := by
  have ha := a.v.isLt
  have hb := b.v.isLt
  have hp : blen 65581 = 17 := by decide +kernel
  have hs : ∀ x : El 16, blen x.v.toNat < blen 65581 := fun x => by have := blen_lt x.v.isLt; omega
  refine run_ring_mulMod (by simp) ?_
  simp only [c_ring_mulMod, WS, List.getElem_cons_zero, List.getElem_cons_succ, Option.isNone_some, Option.isNone_none, List.getD_cons_zero, List.getD_cons_succ, I.at, atL, atO, atP, evp, evs, retV, ↓reduceIte, Nat.reduceEqDiff, reduceCtorEq]
  refine X_call0 ((ring_divMod_small w a.v.toNat 65581 (by omega) (by decide) (hs a)).mono ?_)
  rintro v w' ⟨rfl, rfl⟩
  simp only [WS, List.getElem_cons_zero, List.getElem_cons_succ, Option.isNone_some, Option.isNone_none, List.getD_cons_zero, List.getD_cons_succ, I.at, atL, atO, atP, evp, evs, retV, ↓reduceIte, Nat.reduceEqDiff, reduceCtorEq]
  refine X_call0 ((ring_divMod_small w' b.v.toNat 65581 (by omega) (by decide) (hs b)).mono ?_)
  rintro v w ⟨rfl, rfl⟩
  simp only [WS, List.getElem_cons_zero, List.getElem_cons_succ, Option.isNone_some, Option.isNone_none, List.getD_cons_zero, List.getD_cons_succ, I.at, atL, atO, atP, evp, evs, retV, ↓reduceIte, Nat.reduceEqDiff, reduceCtorEq]
  refine X_call0 ((ring_Degree_spec w 65581 (by decide)).mono ?_)
  rintro v w' ⟨rfl, rfl⟩
  rw [hp]
  simp only [WS, List.getElem_cons_zero, List.getElem_cons_succ, Option.isNone_some, Option.isNone_none, List.getD_cons_zero, List.getD_cons_succ, I.at, atL, atO, atP, evp, evs, retV, ↓reduceIte, Nat.reduceEqDiff, reduceCtorEq]
  refine loop_of (fun t w => w = w' ∧ t 0 = .int .u64 (a.v.toNat : Int) ∧ t 1 = .int .u64 (b.v.toNat : Int) ∧ t 2 = .int .u64 65581 ∧ t 7 = .int .i64 16 ∧ ∃ (m : Nat) (s : BitVec 16), m ≤ 16 ∧ t 8 = .int .u64 (s.toNat : Int) ∧ t 9 = .int .i64 ((m : Int) - 1) ∧ horner r16 a.v b.v m s = (a * b).v) (fun t _ => (toI (t 9) + 1).toNat) ⟨rfl, rfl, rfl, rfl, rfl, 16, 0, by omega, rfl, rfl, horner_mul r16 a.v b.v⟩ ?_
  rintro t w ⟨rfl, h0, h1, h2, h7, m, s, hm, h8, h9, hh⟩
  rcases Nat.eq_zero_or_pos m with rfl | hpos
  · have d1 : decide ((0 : Int) ≤ ((0 : Nat) : Int) - 1) = false := by decide
    simp only [WS, List.getElem_cons_zero, List.getElem_cons_succ, Option.isNone_some, Option.isNone_none, List.getD_cons_zero, List.getD_cons_succ, I.at, atL, atO, atP, evp, evs, retV, ↓reduceIte, Nat.reduceEqDiff, reduceCtorEq, h8, h9, d1]
    rw [← hh]; rfl
  · obtain ⟨m, rfl⟩ : ∃ k, m = k + 1 := ⟨m - 1, by omega⟩
    have e1 : ((m + 1 : Nat) : Int) - 1 = (m : Int) := by omega
    rw [e1] at h9
    have hs := s.isLt
    have d1 : decide ((0 : Int) ≤ (m : Int)) = true := by simp
    have s1 : shlV .u64 (s.toNat : Int) 1 = ((s.toNat <<< 1 : Nat) : Int) := shl_nat fits_u64 s.toNat 1 (by decide) (by omega)
    have e2 : s.toNat <<< 1 = 2 * s.toNat := by rw [Nat.shiftLeft_eq]; omega
    have t1 : bitsOp .and .u64 (shrV .u64 ((s.toNat <<< 1 : Nat) : Int) 16) 1 = if (s.toNat <<< 1).testBit 16 then 1 else 0 := and1_u64 (s.toNat <<< 1) 16 (by omega) (by decide)
    rw [mx16_bit] at t1
    have t2 := and1_u64 b.v.toNat m (by omega) (by omega)
    have hbit : b.v.toNat.testBit m = b.v.getLsbD m := BitVec.testBit_toNat b.v
    rw [hbit] at t2
    have x1 : bitsOp .xor .u64 ((s.toNat <<< 1 : Nat) : Int) 65581 = (((s.toNat <<< 1) ^^^ 65581 : Nat) : Int) := bits_xor fits_u64 (by omega) (by decide)
    have v1 := mx16_val s
    have x2 : ∀ y : BitVec 16, bitsOp .xor .u64 (y.toNat : Int) (a.v.toNat : Int) = ((y ^^^ a.v).toNat : Int) := fun y => by
      have := y.isLt
      rw [bits_xor fits_u64 (by omega) (by omega), BitVec.toNat_xor]
    simp only [horner] at hh
    have w1 : IntKind.i64.wrap ((m : Int) - 1) = (m : Int) - 1 := wrap_id (by omega) (by omega)
    have m1 : (((m : Int) - 1) + 1).toNat < ((m : Int) + 1).toNat := by omega
    cases hmsb : s.msb <;> cases hbm : b.v.getLsbD m <;> simp only [hmsb, hbm, if_true, if_false, Bool.false_eq_true] at t1 t2 v1 hh
    · simp only [WS, List.getElem_cons_zero, List.getElem_cons_succ, Option.isNone_some, Option.isNone_none, List.getD_cons_zero, List.getD_cons_succ, I.at, atL, atO, atP, evp, evs, retV, ↓reduceIte, Nat.reduceEqDiff, reduceCtorEq, X_shl, X_shr, Int.reduceLE, Int.natCast_nonneg, h0, h1, h2, h7, h8, h9, d1, s1, t1, t2, Int.reduceEq, w1, toI_int]
      refine ⟨⟨m, mx r16 s, by omega, by rw [← v1], rfl, ?_⟩, m1⟩
      rw [← hh]; simp [sel]
    · rw [v1] at t1
      simp only [WS, List.getElem_cons_zero, List.getElem_cons_succ, Option.isNone_some, Option.isNone_none, List.getD_cons_zero, List.getD_cons_succ, I.at, atL, atO, atP, evp, evs, retV, ↓reduceIte, Nat.reduceEqDiff, reduceCtorEq, X_shl, X_shr, Int.reduceLE, Int.natCast_nonneg, h0, h1, h2, h7, h8, h9, d1, s1, t1, t2, Int.reduceEq, v1, x2, w1, toI_int]
      exact ⟨⟨m, mx r16 s ^^^ a.v, by omega, rfl, rfl, by rw [← hh]; simp [sel]⟩, m1⟩
    · simp only [WS, List.getElem_cons_zero, List.getElem_cons_succ, Option.isNone_some, Option.isNone_none, List.getD_cons_zero, List.getD_cons_succ, I.at, atL, atO, atP, evp, evs, retV, ↓reduceIte, Nat.reduceEqDiff, reduceCtorEq, X_shl, X_shr, Int.reduceLE, Int.natCast_nonneg, h0, h1, h2, h7, h8, h9, d1, s1, t1, t2, Int.reduceEq, x1, v1, w1, toI_int]
      exact ⟨⟨m, mx r16 s, by omega, rfl, rfl, by rw [← hh]; simp [sel]⟩, m1⟩
    · simp only [WS, List.getElem_cons_zero, List.getElem_cons_succ, Option.isNone_some, Option.isNone_none, List.getD_cons_zero, List.getD_cons_succ, I.at, atL, atO, atP, evp, evs, retV, ↓reduceIte, Nat.reduceEqDiff, reduceCtorEq, X_shl, X_shr, Int.reduceLE, Int.natCast_nonneg, h0, h1, h2, h7, h8, h9, d1, s1, t1, t2, Int.reduceEq, x1, v1, x2, w1, toI_int]
      exact ⟨⟨m, mx r16 s ^^^ a.v, by omega, rfl, rfl, by rw [← hh]; simp [sel]⟩, m1⟩
theorem ring_MulMod_spec (w : World) (a b : El 16) : CallV Try.prog 109 [.int .u64 (a.v.toNat : Int), .int .u64 (b.v.toNat : Int), .int .u64 65581] w fun v w' => v = .tuple #[.int .u64 ((a * b).v.toNat : Int), .int .i64 0] ∧ w' = w := by
  have hp : blen 65581 = 17 := by decide +kernel
  refine run_ring_MulMod (by simp) ?_
  simp only [c_ring_MulMod, WS, List.getElem_cons_zero, List.getElem_cons_succ, Option.isNone_some, Option.isNone_none, List.getD_cons_zero, List.getD_cons_succ, I.at, atL, atO, atP, evp, evs, retV, ↓reduceIte, Nat.reduceEqDiff, reduceCtorEq]
  refine X_call0 ((ring_isModulus_spec w 65581 32 (by decide) (by decide)).mono ?_)
  rintro v w' ⟨rfl, rfl⟩
  rw [hp]
  simp only [WS, List.getElem_cons_zero, List.getElem_cons_succ, Option.isNone_some, Option.isNone_none, List.getD_cons_zero, List.getD_cons_succ, I.at, atL, atO, atP, evp, evs, retV, ↓reduceIte, Nat.reduceEqDiff, reduceCtorEq, show decide (2 ≤ 17 ∧ 17 ≤ 32 + 1) = true from rfl]
  refine X_call0 ((ring_mulMod_spec w' a b).mono ?_)
  rintro v w ⟨rfl, rfl⟩
  simp only [WS, List.getElem_cons_zero, List.getElem_cons_succ, Option.isNone_some, Option.isNone_none, List.getD_cons_zero, List.getD_cons_succ, I.at, atL, atO, atP, evp, evs, retV, ↓reduceIte, Nat.reduceEqDiff, reduceCtorEq]
theorem gf16_Mul_spec (w : World) (a b : El 16) : CallV Try.prog 70 [.int .u16 (a.v.toNat : Int), .int .u16 (b.v.toNat : Int)] w fun v w' => v = .int .u16 ((a * b).v.toNat : Int) ∧ w' = w := by
  have ha := a.v.isLt
  have hb := b.v.isLt
  have hab := (a * b).v.isLt
  refine run_gf16_Mul (by simp) ?_
  simp only [c_gf16_Mul, WS, List.getElem_cons_zero, List.getElem_cons_succ, Option.isNone_some, Option.isNone_none, List.getD_cons_zero, List.getD_cons_succ, I.at, atL, atO, atP, evp, evs, retV, ↓reduceIte, Nat.reduceEqDiff, reduceCtorEq, wrap_u64 _ (show a.v.toNat < 18446744073709551616 by omega), wrap_u64 _ (show b.v.toNat < 18446744073709551616 by omega)]
  refine X_call0 ((ring_MulMod_spec w a b).mono ?_)
  rintro v w' ⟨rfl, rfl⟩
  simp only [WS, List.getElem_cons_zero, List.getElem_cons_succ, Option.isNone_some, Option.isNone_none, List.getD_cons_zero, List.getD_cons_succ, I.at, atL, atO, atP, evp, evs, retV, ↓reduceIte, Nat.reduceEqDiff, reduceCtorEq, wrap_u16 _ hab]
end Go.Proofs.Ytbaljbadlfopgaa.Fw
