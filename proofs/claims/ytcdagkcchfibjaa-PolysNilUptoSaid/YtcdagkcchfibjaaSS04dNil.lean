import Derived.Test.YtcdagkcchfibjaaProg
import Derived.Test.YtcdagkcchfibjaaFwTNil
import Derived.Test.YtcdagkcchfibjaaSS04cNil
set_option linter.all false
set_option linter.unusedVariables false
set_option linter.unusedSimpArgs false
set_option maxRecDepth 100000
set_option maxHeartbeats 1000000
namespace Go.Proofs.Ytcdagkcchfibjaa.Fw
open Go Go.Fw Go.Proofs
attribute [local irreducible] stepI
def c_polys_Ring_w_Mul : C := .seq (.ops [⟨0, (some 6), none, .mov (.c (.slice none 0 0)), []⟩, ⟨1, (some 7), none, .mov (.c (.int .i64 0)), []⟩]) (.seq (.seq (.ops [⟨0, (some 9), none, .mov (.t 0), []⟩, ⟨1, (some 10), none, .mov (.t 1), []⟩, ⟨2, (some 11), none, .mov (.t 2), []⟩, ⟨3, (some 12), none, .bsl 27 2 [.slice none 0 0] [(0, (1, .t 10)), (1, (1, .t 11))], []⟩, ⟨4, (some 13), none, .call (.c (.func (.func 78) #[] #[])) [.t 9, .t 12], []⟩, ⟨5, (some 8), none, .mov (.t 13), []⟩]) (.seq (.ops [⟨0, (some 14), none, .mov (.t 8), []⟩, ⟨1, (some 15), none, .bin .neq (.t 14) (.c (.int .i64 0)), []⟩]) (.ite (.t 15) (.seq (.ops [⟨0, (some 16), none, .mov (.t 8), []⟩, ⟨1, (some 6), none, .mov (.c (.slice none 0 0)), []⟩, ⟨2, (some 7), none, .mov (.t 16), []⟩]) .ret) .skip))) (.seq (.ops [⟨0, (some 17), none, .mov (.t 0), []⟩, ⟨1, (some 18), none, .mov (.t 1), []⟩, ⟨2, (some 19), none, .mov (.t 2), []⟩, ⟨3, (some 20), none, .call (.c (.func (.func 79) #[] #[])) [.t 17, .t 18, .t 19], []⟩, ⟨4, (some 6), none, .mov (.t 20), []⟩, ⟨5, (some 7), none, .mov (.c (.int .i64 0)), []⟩]) .ret))
attribute [irreducible] c_polys_Ring_w_Mul
theorem run_polys_Ring_w_Mul {args : List Value} {w : World} {K : Value → World → Prop} (hn : args.length ≤ 21) (h : WP Try.prog c_polys_Ring_w_Mul (endQ [.t 6, .t 7] K) (initT args) w) : CallV Try.prog 37 args w K :=
  call_of follows Try.func37 (by kernel_rfl) (by kernel_rfl) hn h
def c_polys_Ring_b_Mul : C := .seq (.ops [⟨0, (some 6), none, .mov (.c (.slice none 0 0)), []⟩, ⟨1, (some 7), none, .mov (.c (.int .i64 0)), []⟩]) (.seq (.seq (.ops [⟨0, (some 9), none, .mov (.t 0), []⟩, ⟨1, (some 10), none, .mov (.t 1), []⟩, ⟨2, (some 11), none, .mov (.t 2), []⟩, ⟨3, (some 12), none, .bsl 57 2 [.slice none 0 0] [(0, (1, .t 10)), (1, (1, .t 11))], []⟩, ⟨4, (some 13), none, .call (.c (.func (.func 80) #[] #[])) [.t 9, .t 12], []⟩, ⟨5, (some 8), none, .mov (.t 13), []⟩]) (.seq (.ops [⟨0, (some 14), none, .mov (.t 8), []⟩, ⟨1, (some 15), none, .bin .neq (.t 14) (.c (.int .i64 0)), []⟩]) (.ite (.t 15) (.seq (.ops [⟨0, (some 16), none, .mov (.t 8), []⟩, ⟨1, (some 6), none, .mov (.c (.slice none 0 0)), []⟩, ⟨2, (some 7), none, .mov (.t 16), []⟩]) .ret) .skip))) (.seq (.ops [⟨0, (some 17), none, .mov (.t 0), []⟩, ⟨1, (some 18), none, .mov (.t 1), []⟩, ⟨2, (some 19), none, .mov (.t 2), []⟩, ⟨3, (some 20), none, .call (.c (.func (.func 81) #[] #[])) [.t 17, .t 18, .t 19], []⟩, ⟨4, (some 6), none, .mov (.t 20), []⟩, ⟨5, (some 7), none, .mov (.c (.int .i64 0)), []⟩]) .ret))
attribute [irreducible] c_polys_Ring_b_Mul
theorem run_polys_Ring_b_Mul {args : List Value} {w : World} {K : Value → World → Prop} (hn : args.length ≤ 21) (h : WP Try.prog c_polys_Ring_b_Mul (endQ [.t 6, .t 7] K) (initT args) w) : CallV Try.prog 39 args w K :=
  call_of follows Try.func39 (by kernel_rfl) (by kernel_rfl) hn h
def c_polys_Ring_w_Derivative : C := .seq (.ops [⟨0, (some 4), none, .mov (.c (.slice none 0 0)), []⟩]) (.seq (.seq (.ops [⟨0, (some 7), none, .mov (.t 0), []⟩, ⟨1, (some 8), none, .eqp false (.t 7) (.c (.pointer none)), []⟩, ⟨2, (some 9), none, .mov (.t 8), []⟩, ⟨3, (some 10), (some (9, false)), .mov (.t 1), []⟩, ⟨4, (some 11), (some (9, false)), .len (.t 10), []⟩, ⟨5, (some 12), (some (9, false)), .bin .lss (.t 11) (.c (.int .i64 2)), []⟩, ⟨6, (some 13), none, .pick (.t 9) (.c (.bool true)) (.t 12), []⟩]) (.ite (.t 13) (.seq (.ops [⟨0, (some 4), none, .mov (.c (.slice none 0 0)), []⟩]) .ret) .skip)) (.seq (.ops [⟨0, (some 14), none, .mov (.t 1), []⟩, ⟨1, (some 15), none, .len (.t 14), []⟩, ⟨2, (some 16), none, .bin .sub (.t 15) (.c (.int .i64 1)), []⟩, ⟨3, (some 17), none, .mks 28 2 [.int .u16 0] (.t 16) (.t 16), []⟩, ⟨4, (some 5), none, .mov (.t 17), []⟩]) (.seq (.seq (.ops [⟨0, (some 6), none, .mov (.c (.int .i64 0)), []⟩]) (.block 0 (.loop (.seq (.seq (.ops [⟨0, (some 18), none, .mov (.t 6), []⟩, ⟨1, (some 19), none, .mov (.t 5), []⟩, ⟨2, (some 20), none, .len (.t 19), []⟩, ⟨3, (some 21), none, .bin .lss (.t 18) (.t 20), []⟩]) (.ite (.t 21) .skip (.exit 0))) (.seq (.block 1 (.ops [⟨0, (some 24), none, .mov (.t 5), []⟩, ⟨1, (some 25), none, .mov (.t 6), []⟩, ⟨2, (some 26), none, .mov (.t 1), []⟩, ⟨3, (some 27), none, .mov (.t 6), []⟩, ⟨4, (some 28), none, .bin .add (.t 27) (.c (.int .i64 1)), []⟩, ⟨5, (some 29), none, .ixs 1 (.t 26) (.t 28), []⟩, ⟨6, (some 30), none, .ld (.t 29), []⟩, ⟨7, (some 31), none, .ixs 1 (.t 24) (.t 25), []⟩, ⟨8, none, none, .st (.t 31) (.t 30), []⟩])) (.ops [⟨0, (some 22), none, .mov (.t 6), []⟩, ⟨1, (some 23), none, .bin .add (.t 22) (.c (.int .i64 2)), []⟩, ⟨2, (some 6), none, .mov (.t 23), []⟩])))))) (.seq (.ops [⟨0, (some 32), none, .mov (.t 5), []⟩, ⟨1, (some 33), none, .call (.c (.func (.func 84) #[] #[])) [.t 32], []⟩, ⟨2, (some 4), none, .mov (.t 33), []⟩]) .ret))))
attribute [irreducible] c_polys_Ring_w_Derivative
theorem run_polys_Ring_w_Derivative {args : List Value} {w : World} {K : Value → World → Prop} (hn : args.length ≤ 34) (h : WP Try.prog c_polys_Ring_w_Derivative (endQ [.t 4] K) (initT args) w) : CallV Try.prog 44 args w K :=
  call_of follows Try.func44 (by kernel_rfl) (by kernel_rfl) hn h
def c_polys_Ring_b_Derivative : C := .seq (.ops [⟨0, (some 4), none, .mov (.c (.slice none 0 0)), []⟩]) (.seq (.seq (.ops [⟨0, (some 7), none, .mov (.t 0), []⟩, ⟨1, (some 8), none, .eqp false (.t 7) (.c (.pointer none)), []⟩, ⟨2, (some 9), none, .mov (.t 8), []⟩, ⟨3, (some 10), (some (9, false)), .mov (.t 1), []⟩, ⟨4, (some 11), (some (9, false)), .len (.t 10), []⟩, ⟨5, (some 12), (some (9, false)), .bin .lss (.t 11) (.c (.int .i64 2)), []⟩, ⟨6, (some 13), none, .pick (.t 9) (.c (.bool true)) (.t 12), []⟩]) (.ite (.t 13) (.seq (.ops [⟨0, (some 4), none, .mov (.c (.slice none 0 0)), []⟩]) .ret) .skip)) (.seq (.ops [⟨0, (some 14), none, .mov (.t 1), []⟩, ⟨1, (some 15), none, .len (.t 14), []⟩, ⟨2, (some 16), none, .bin .sub (.t 15) (.c (.int .i64 1)), []⟩, ⟨3, (some 17), none, .mks 5 1 [.int .u8 0] (.t 16) (.t 16), []⟩, ⟨4, (some 5), none, .mov (.t 17), []⟩]) (.seq (.seq (.ops [⟨0, (some 6), none, .mov (.c (.int .i64 0)), []⟩]) (.block 0 (.loop (.seq (.seq (.ops [⟨0, (some 18), none, .mov (.t 6), []⟩, ⟨1, (some 19), none, .mov (.t 5), []⟩, ⟨2, (some 20), none, .len (.t 19), []⟩, ⟨3, (some 21), none, .bin .lss (.t 18) (.t 20), []⟩]) (.ite (.t 21) .skip (.exit 0))) (.seq (.block 1 (.ops [⟨0, (some 24), none, .mov (.t 5), []⟩, ⟨1, (some 25), none, .mov (.t 6), []⟩, ⟨2, (some 26), none, .mov (.t 1), []⟩, ⟨3, (some 27), none, .mov (.t 6), []⟩, ⟨4, (some 28), none, .bin .add (.t 27) (.c (.int .i64 1)), []⟩, ⟨5, (some 29), none, .ixs 1 (.t 26) (.t 28), []⟩, ⟨6, (some 30), none, .ld (.t 29), []⟩, ⟨7, (some 31), none, .ixs 1 (.t 24) (.t 25), []⟩, ⟨8, none, none, .st (.t 31) (.t 30), []⟩])) (.ops [⟨0, (some 22), none, .mov (.t 6), []⟩, ⟨1, (some 23), none, .bin .add (.t 22) (.c (.int .i64 2)), []⟩, ⟨2, (some 6), none, .mov (.t 23), []⟩])))))) (.seq (.ops [⟨0, (some 32), none, .mov (.t 5), []⟩, ⟨1, (some 33), none, .call (.c (.func (.func 85) #[] #[])) [.t 32], []⟩, ⟨2, (some 4), none, .mov (.t 33), []⟩]) .ret))))
attribute [irreducible] c_polys_Ring_b_Derivative
theorem run_polys_Ring_b_Derivative {args : List Value} {w : World} {K : Value → World → Prop} (hn : args.length ≤ 34) (h : WP Try.prog c_polys_Ring_b_Derivative (endQ [.t 4] K) (initT args) w) : CallV Try.prog 45 args w K :=
  call_of follows Try.func45 (by kernel_rfl) (by kernel_rfl) hn h
def c_polys_Ring_w_Trim : C := .seq (.ops [⟨0, (some 4), none, .mov (.c (.slice none 0 0)), []⟩]) (.seq (.seq (.ops [⟨0, (some 5), none, .mov (.t 0), []⟩, ⟨1, (some 6), none, .eqp false (.t 5) (.c (.pointer none)), []⟩]) (.ite (.t 6) (.seq (.ops [⟨0, (some 4), none, .mov (.c (.slice none 0 0)), []⟩]) .ret) .skip)) (.seq (.ops [⟨0, (some 7), none, .mov (.t 1), []⟩, ⟨1, (some 8), none, .call (.c (.func (.func 84) #[] #[])) [.t 7], []⟩, ⟨2, (some 4), none, .mov (.t 8), []⟩]) .ret))
attribute [irreducible] c_polys_Ring_w_Trim
theorem run_polys_Ring_w_Trim {args : List Value} {w : World} {K : Value → World → Prop} (hn : args.length ≤ 9) (h : WP Try.prog c_polys_Ring_w_Trim (endQ [.t 4] K) (initT args) w) : CallV Try.prog 49 args w K :=
  call_of follows Try.func49 (by kernel_rfl) (by kernel_rfl) hn h
def c_polys_Ring_b_Trim : C := .seq (.ops [⟨0, (some 4), none, .mov (.c (.slice none 0 0)), []⟩]) (.seq (.seq (.ops [⟨0, (some 5), none, .mov (.t 0), []⟩, ⟨1, (some 6), none, .eqp false (.t 5) (.c (.pointer none)), []⟩]) (.ite (.t 6) (.seq (.ops [⟨0, (some 4), none, .mov (.c (.slice none 0 0)), []⟩]) .ret) .skip)) (.seq (.ops [⟨0, (some 7), none, .mov (.t 1), []⟩, ⟨1, (some 8), none, .call (.c (.func (.func 85) #[] #[])) [.t 7], []⟩, ⟨2, (some 4), none, .mov (.t 8), []⟩]) .ret))
attribute [irreducible] c_polys_Ring_b_Trim
theorem run_polys_Ring_b_Trim {args : List Value} {w : World} {K : Value → World → Prop} (hn : args.length ≤ 9) (h : WP Try.prog c_polys_Ring_b_Trim (endQ [.t 4] K) (initT args) w) : CallV Try.prog 50 args w K :=
  call_of follows Try.func50 (by kernel_rfl) (by kernel_rfl) hn h
def c_polys_Ring_w_Add : C := .seq (.ops [⟨0, (some 6), none, .mov (.c (.slice none 0 0)), []⟩]) (.seq (.seq (.ops [⟨0, (some 7), none, .mov (.t 0), []⟩, ⟨1, (some 8), none, .eqp false (.t 7) (.c (.pointer none)), []⟩]) (.ite (.t 8) (.seq (.ops [⟨0, (some 6), none, .mov (.c (.slice none 0 0)), []⟩]) .ret) .skip)) (.seq (.ops [⟨0, (some 9), none, .mov (.t 1), []⟩, ⟨1, (some 10), none, .mov (.t 2), []⟩, ⟨2, (some 11), none, .call (.c (.func (.func 89) #[] #[])) [.t 9, .t 10], []⟩, ⟨3, (some 12), none, .call (.c (.func (.func 84) #[] #[])) [.t 11], []⟩, ⟨4, (some 6), none, .mov (.t 12), []⟩]) .ret))
attribute [irreducible] c_polys_Ring_w_Add
theorem run_polys_Ring_w_Add {args : List Value} {w : World} {K : Value → World → Prop} (hn : args.length ≤ 13) (h : WP Try.prog c_polys_Ring_w_Add (endQ [.t 6] K) (initT args) w) : CallV Try.prog 51 args w K :=
  call_of follows Try.func51 (by kernel_rfl) (by kernel_rfl) hn h
def c_polys_Ring_b_Add : C := .seq (.ops [⟨0, (some 6), none, .mov (.c (.slice none 0 0)), []⟩]) (.seq (.seq (.ops [⟨0, (some 7), none, .mov (.t 0), []⟩, ⟨1, (some 8), none, .eqp false (.t 7) (.c (.pointer none)), []⟩]) (.ite (.t 8) (.seq (.ops [⟨0, (some 6), none, .mov (.c (.slice none 0 0)), []⟩]) .ret) .skip)) (.seq (.ops [⟨0, (some 9), none, .mov (.t 1), []⟩, ⟨1, (some 10), none, .mov (.t 2), []⟩, ⟨2, (some 11), none, .call (.c (.func (.func 90) #[] #[])) [.t 9, .t 10], []⟩, ⟨3, (some 12), none, .call (.c (.func (.func 85) #[] #[])) [.t 11], []⟩, ⟨4, (some 6), none, .mov (.t 12), []⟩]) .ret))
attribute [irreducible] c_polys_Ring_b_Add
theorem run_polys_Ring_b_Add {args : List Value} {w : World} {K : Value → World → Prop} (hn : args.length ≤ 13) (h : WP Try.prog c_polys_Ring_b_Add (endQ [.t 6] K) (initT args) w) : CallV Try.prog 52 args w K :=
  call_of follows Try.func52 (by kernel_rfl) (by kernel_rfl) hn h
def c_polys_Ring_w_Eval : C := .seq (.ops [⟨0, (some 6), none, .mov (.c (.int .u16 0)), []⟩]) (.seq (.ops [⟨0, (some 7), none, .mov (.c (.int .u16 0)), []⟩]) (.seq (.seq (.ops [⟨0, (some 9), none, .mov (.t 0), []⟩, ⟨1, (some 10), none, .eqp false (.t 9) (.c (.pointer none)), []⟩]) (.ite (.t 10) (.seq (.ops [⟨0, (some 11), none, .mov (.t 7), []⟩, ⟨1, (some 6), none, .mov (.t 11), []⟩]) .ret) .skip)) (.seq (.seq (.ops [⟨0, (some 12), none, .mov (.t 1), []⟩, ⟨1, (some 13), none, .len (.t 12), []⟩, ⟨2, (some 14), none, .bin .sub (.t 13) (.c (.int .i64 1)), []⟩, ⟨3, (some 8), none, .mov (.t 14), []⟩]) (.block 0 (.loop (.seq (.seq (.ops [⟨0, (some 15), none, .mov (.t 8), []⟩, ⟨1, (some 16), none, .bin .geq (.t 15) (.c (.int .i64 0)), []⟩]) (.ite (.t 16) .skip (.exit 0))) (.seq (.block 1 (.dops [⟨0, (some 19), none, .mov (.t 0), []⟩, ⟨1, (some 20), none, .nil (.t 19), []⟩, ⟨2, (some 21), none, .fad 0 (.t 20), []⟩, ⟨3, (some 22), none, .ld (.t 21), []⟩, ⟨4, (some 23), none, .mov (.t 7), []⟩, ⟨5, (some 24), none, .mov (.t 2), []⟩, ⟨6, (some 25), none, .call (.t 22) [.t 23, .t 24], []⟩, ⟨7, (some 26), none, .mov (.t 1), []⟩, ⟨8, (some 27), none, .mov (.t 8), []⟩, ⟨9, (some 28), none, .ixs 1 (.t 26) (.t 27), []⟩, ⟨10, (some 29), none, .ld (.t 28), [6]⟩, ⟨11, (some 30), none, .bin .xor (.t 25) (.t 29), []⟩, ⟨12, (some 7), none, .mov (.t 30), []⟩])) (.ops [⟨0, (some 17), none, .mov (.t 8), []⟩, ⟨1, (some 18), none, .bin .sub (.t 17) (.c (.int .i64 1)), []⟩, ⟨2, (some 8), none, .mov (.t 18), []⟩])))))) (.seq (.ops [⟨0, (some 31), none, .mov (.t 7), []⟩, ⟨1, (some 6), none, .mov (.t 31), []⟩]) .ret))))
attribute [irreducible] c_polys_Ring_w_Eval
theorem run_polys_Ring_w_Eval {args : List Value} {w : World} {K : Value → World → Prop} (hn : args.length ≤ 32) (h : WP Try.prog c_polys_Ring_w_Eval (endQ [.t 6] K) (initT args) w) : CallV Try.prog 53 args w K :=
  call_of follows Try.func53 (by kernel_rfl) (by kernel_rfl) hn h
def c_polys_Ring_b_Eval : C := .seq (.ops [⟨0, (some 6), none, .mov (.c (.int .u8 0)), []⟩]) (.seq (.ops [⟨0, (some 7), none, .mov (.c (.int .u8 0)), []⟩]) (.seq (.seq (.ops [⟨0, (some 9), none, .mov (.t 0), []⟩, ⟨1, (some 10), none, .eqp false (.t 9) (.c (.pointer none)), []⟩]) (.ite (.t 10) (.seq (.ops [⟨0, (some 11), none, .mov (.t 7), []⟩, ⟨1, (some 6), none, .mov (.t 11), []⟩]) .ret) .skip)) (.seq (.seq (.ops [⟨0, (some 12), none, .mov (.t 1), []⟩, ⟨1, (some 13), none, .len (.t 12), []⟩, ⟨2, (some 14), none, .bin .sub (.t 13) (.c (.int .i64 1)), []⟩, ⟨3, (some 8), none, .mov (.t 14), []⟩]) (.block 0 (.loop (.seq (.seq (.ops [⟨0, (some 15), none, .mov (.t 8), []⟩, ⟨1, (some 16), none, .bin .geq (.t 15) (.c (.int .i64 0)), []⟩]) (.ite (.t 16) .skip (.exit 0))) (.seq (.block 1 (.dops [⟨0, (some 19), none, .mov (.t 0), []⟩, ⟨1, (some 20), none, .nil (.t 19), []⟩, ⟨2, (some 21), none, .fad 0 (.t 20), []⟩, ⟨3, (some 22), none, .ld (.t 21), []⟩, ⟨4, (some 23), none, .mov (.t 7), []⟩, ⟨5, (some 24), none, .mov (.t 2), []⟩, ⟨6, (some 25), none, .call (.t 22) [.t 23, .t 24], []⟩, ⟨7, (some 26), none, .mov (.t 1), []⟩, ⟨8, (some 27), none, .mov (.t 8), []⟩, ⟨9, (some 28), none, .ixs 1 (.t 26) (.t 27), []⟩, ⟨10, (some 29), none, .ld (.t 28), [6]⟩, ⟨11, (some 30), none, .bin .xor (.t 25) (.t 29), []⟩, ⟨12, (some 7), none, .mov (.t 30), []⟩])) (.ops [⟨0, (some 17), none, .mov (.t 8), []⟩, ⟨1, (some 18), none, .bin .sub (.t 17) (.c (.int .i64 1)), []⟩, ⟨2, (some 8), none, .mov (.t 18), []⟩])))))) (.seq (.ops [⟨0, (some 31), none, .mov (.t 7), []⟩, ⟨1, (some 6), none, .mov (.t 31), []⟩]) .ret))))
attribute [irreducible] c_polys_Ring_b_Eval
theorem run_polys_Ring_b_Eval {args : List Value} {w : World} {K : Value → World → Prop} (hn : args.length ≤ 32) (h : WP Try.prog c_polys_Ring_b_Eval (endQ [.t 6] K) (initT args) w) : CallV Try.prog 54 args w K :=
  call_of follows Try.func54 (by kernel_rfl) (by kernel_rfl) hn h
def c_polys_Ring_w_Degree : C := .seq (.ops [⟨0, (some 4), none, .mov (.c (.int .i64 0)), []⟩]) (.seq (.seq (.ops [⟨0, (some 5), none, .mov (.t 0), []⟩, ⟨1, (some 6), none, .eqp false (.t 5) (.c (.pointer none)), []⟩]) (.ite (.t 6) (.seq (.ops [⟨0, (some 4), none, .mov (.c (.int .i64 0)), []⟩]) .ret) .skip)) (.seq (.ops [⟨0, (some 7), none, .mov (.t 1), []⟩, ⟨1, (some 8), none, .call (.c (.func (.func 91) #[] #[])) [.t 7], []⟩, ⟨2, (some 4), none, .mov (.t 8), []⟩]) .ret))
attribute [irreducible] c_polys_Ring_w_Degree
theorem run_polys_Ring_w_Degree {args : List Value} {w : World} {K : Value → World → Prop} (hn : args.length ≤ 9) (h : WP Try.prog c_polys_Ring_w_Degree (endQ [.t 4] K) (initT args) w) : CallV Try.prog 61 args w K :=
  call_of follows Try.func61 (by kernel_rfl) (by kernel_rfl) hn h
def c_polys_Ring_b_Degree : C := .seq (.ops [⟨0, (some 4), none, .mov (.c (.int .i64 0)), []⟩]) (.seq (.seq (.ops [⟨0, (some 5), none, .mov (.t 0), []⟩, ⟨1, (some 6), none, .eqp false (.t 5) (.c (.pointer none)), []⟩]) (.ite (.t 6) (.seq (.ops [⟨0, (some 4), none, .mov (.c (.int .i64 0)), []⟩]) .ret) .skip)) (.seq (.ops [⟨0, (some 7), none, .mov (.t 1), []⟩, ⟨1, (some 8), none, .call (.c (.func (.func 93) #[] #[])) [.t 7], []⟩, ⟨2, (some 4), none, .mov (.t 8), []⟩]) .ret))
attribute [irreducible] c_polys_Ring_b_Degree
theorem run_polys_Ring_b_Degree {args : List Value} {w : World} {K : Value → World → Prop} (hn : args.length ≤ 9) (h : WP Try.prog c_polys_Ring_b_Degree (endQ [.t 4] K) (initT args) w) : CallV Try.prog 62 args w K :=
  call_of follows Try.func62 (by kernel_rfl) (by kernel_rfl) hn h
def c_polys_Ring_w_refuses : C := .seq (.ops [⟨0, (some 4), none, .mov (.c (.int .i64 0)), []⟩]) (.seq (.seq (.ops [⟨0, (some 7), none, .mov (.t 0), []⟩, ⟨1, (some 8), none, .eqp false (.t 7) (.c (.pointer none)), []⟩]) (.ite (.t 8) (.seq (.ops [⟨0, (some 4), none, .mov (.c (.int .i64 1)), []⟩]) .ret) .skip)) (.seq (.seq (.ops [⟨0, (some 9), none, .mov (.t 1), []⟩, ⟨1, (some 10), none, .len (.t 9), []⟩, ⟨2, (some 11), none, .mov (.c (.int .i64 0)), []⟩]) (.block 0 (.loop (.seq (.ops [⟨0, (some 12), none, .bin .lss (.t 11) (.t 10), []⟩]) (.seq (.ite (.t 12) .skip (.exit 0)) (.seq (.block 1 (.seq (.ops [⟨0, (some 13), none, .ixs 1 (.t 9) (.t 11), []⟩, ⟨1, (some 14), none, .ld (.t 13), []⟩, ⟨2, (some 6), none, .mov (.t 14), []⟩]) (.seq (.ops [⟨0, (some 15), none, .mov (.t 6), []⟩, ⟨1, (some 16), none, .len (.t 15), []⟩, ⟨2, (some 17), none, .bin .gtr (.t 16) (.c (.int .i64 1024)), []⟩]) (.ite (.t 17) (.seq (.ops [⟨0, (some 4), none, .mov (.c (.int .i64 5)), []⟩]) .ret) .skip)))) (.ops [⟨0, (some 18), none, .bin .add (.t 11) (.c (.int .i64 1)), []⟩, ⟨1, (some 11), none, .mov (.t 18), []⟩]))))))) (.seq (.ops [⟨0, (some 4), none, .mov (.c (.int .i64 0)), []⟩]) .ret)))
attribute [irreducible] c_polys_Ring_w_refuses
theorem run_polys_Ring_w_refuses {args : List Value} {w : World} {K : Value → World → Prop} (hn : args.length ≤ 19) (h : WP Try.prog c_polys_Ring_w_refuses (endQ [.t 4] K) (initT args) w) : CallV Try.prog 78 args w K :=
  call_of follows Try.func78 (by kernel_rfl) (by kernel_rfl) hn h
def c_polys_Ring_b_refuses : C := .seq (.ops [⟨0, (some 4), none, .mov (.c (.int .i64 0)), []⟩]) (.seq (.seq (.ops [⟨0, (some 7), none, .mov (.t 0), []⟩, ⟨1, (some 8), none, .eqp false (.t 7) (.c (.pointer none)), []⟩]) (.ite (.t 8) (.seq (.ops [⟨0, (some 4), none, .mov (.c (.int .i64 1)), []⟩]) .ret) .skip)) (.seq (.seq (.ops [⟨0, (some 9), none, .mov (.t 1), []⟩, ⟨1, (some 10), none, .len (.t 9), []⟩, ⟨2, (some 11), none, .mov (.c (.int .i64 0)), []⟩]) (.block 0 (.loop (.seq (.ops [⟨0, (some 12), none, .bin .lss (.t 11) (.t 10), []⟩]) (.seq (.ite (.t 12) .skip (.exit 0)) (.seq (.block 1 (.seq (.ops [⟨0, (some 13), none, .ixs 1 (.t 9) (.t 11), []⟩, ⟨1, (some 14), none, .ld (.t 13), []⟩, ⟨2, (some 6), none, .mov (.t 14), []⟩]) (.seq (.ops [⟨0, (some 15), none, .mov (.t 6), []⟩, ⟨1, (some 16), none, .len (.t 15), []⟩, ⟨2, (some 17), none, .bin .gtr (.t 16) (.c (.int .i64 1024)), []⟩]) (.ite (.t 17) (.seq (.ops [⟨0, (some 4), none, .mov (.c (.int .i64 5)), []⟩]) .ret) .skip)))) (.ops [⟨0, (some 18), none, .bin .add (.t 11) (.c (.int .i64 1)), []⟩, ⟨1, (some 11), none, .mov (.t 18), []⟩]))))))) (.seq (.ops [⟨0, (some 4), none, .mov (.c (.int .i64 0)), []⟩]) .ret)))
attribute [irreducible] c_polys_Ring_b_refuses
theorem run_polys_Ring_b_refuses {args : List Value} {w : World} {K : Value → World → Prop} (hn : args.length ≤ 19) (h : WP Try.prog c_polys_Ring_b_refuses (endQ [.t 4] K) (initT args) w) : CallV Try.prog 80 args w K :=
  call_of follows Try.func80 (by kernel_rfl) (by kernel_rfl) hn h
end Go.Proofs.Ytcdagkcchfibjaa.Fw
namespace Go.Proofs.Ytcdagkcchfibjaa.Fw
open Go Go.Fw
theorem polys_Ring_w_refuses_spec (w : World) (a : Addr) (s : Value) (hs : List Hd) (h : Sl w s hs) (hb : hs.length ≤ 1000) (hn : ∀ x ∈ hs, x.n ≤ 140737488355328) :
    CallV Try.prog 78 [.pointer (some a), s] w fun v w' => v = .int .i64 (if ∀ x ∈ hs, x.n ≤ 1024 then 0 else 5) ∧ w' = w := by
  refine run_polys_Ring_w_refuses (by simp) ?_
  simp only [c_polys_Ring_w_refuses, WS, List.getElem_cons_zero, List.getElem_cons_succ, Option.isNone_some, Option.isNone_none, List.getD_cons_zero, List.getD_cons_succ, I.at, atL, atO, atP, evp, evs, retV, ↓reduceIte, Nat.reduceEqDiff, reduceCtorEq, h.Xlen]
  refine loop_of (fun t w' => w' = w ∧ t 9 = s ∧ t 10 = .int .i64 (hs.length : Int) ∧ ∃ i : Nat, t 11 = .int .i64 (i : Int) ∧ i ≤ hs.length ∧ ∀ x ∈ hs.take i, x.n ≤ 1024) (fun t _ => hs.length - (toI (t 11)).toNat) ⟨rfl, rfl, rfl, 0, rfl, by omega, by simp⟩ ?_
  rintro t w' ⟨rfl, t9, t10, i, t11, hi, hall⟩
  by_cases hlt : i < hs.length
  · simp only [WS, List.getElem_cons_zero, List.getElem_cons_succ, Option.isNone_some, Option.isNone_none, List.getD_cons_zero, List.getD_cons_succ, I.at, atL, atO, atP, evp, evs, retV, ↓reduceIte, Nat.reduceEqDiff, reduceCtorEq, t9, t10, t11, show decide ((i : Int) < (hs.length : Int)) = true from decide_eq_true (by omega), h.Xix hlt, h.Xld hlt, cell_hd, X_lenS]
    by_cases hx : hs[i].n ≤ 1024
    · simp only [WS, List.getElem_cons_zero, List.getElem_cons_succ, Option.isNone_some, Option.isNone_none, List.getD_cons_zero, List.getD_cons_succ, I.at, atL, atO, atP, evp, evs, retV, ↓reduceIte, Nat.reduceEqDiff, reduceCtorEq, t9, t10, t11, show decide ((1024 : Int) < (hs[i].n : Int)) = false from decide_eq_false (by omega), wrap_id (show -9223372036854775808 ≤ (i : Int) + 1 by omega) (show (i : Int) + 1 < 9223372036854775808 by omega), toI_int]
      refine ⟨⟨i + 1, rfl, by omega, fun x hxm => ?_⟩, by omega⟩
      rw [List.take_add_one, List.getElem?_eq_getElem hlt] at hxm
      rcases List.mem_append.1 hxm with h1 | h1
      · exact hall x h1
      · simp at h1; subst h1; exact hx
    · have : ¬ ∀ x ∈ hs, x.n ≤ 1024 := fun h => hx (h _ (List.getElem_mem hlt))
      simp only [WS, List.getElem_cons_zero, List.getElem_cons_succ, Option.isNone_some, Option.isNone_none, List.getD_cons_zero, List.getD_cons_succ, I.at, atL, atO, atP, evp, evs, retV, ↓reduceIte, Nat.reduceEqDiff, reduceCtorEq, t9, t10, t11, show decide ((1024 : Int) < (hs[i].n : Int)) = true from decide_eq_true (by omega), if_neg this]
  · have : ∀ x ∈ hs, x.n ≤ 1024 := by
      rw [List.take_of_length_le (by omega)] at hall; exact hall
    simp only [WS, List.getElem_cons_zero, List.getElem_cons_succ, Option.isNone_some, Option.isNone_none, List.getD_cons_zero, List.getD_cons_succ, I.at, atL, atO, atP, evp, evs, retV, ↓reduceIte, Nat.reduceEqDiff, reduceCtorEq, t9, t10, t11, show decide ((i : Int) < (hs.length : Int)) = false from decide_eq_false (by omega), if_pos this]
theorem polys_Ring_w_Mul_spec (w : World) (r s1 s2 : Value) (l1 l2 : List (El 16)) (hr : Ring_w w r) (h1 : Sl w s1 l1) (h2 : Sl w s2 l2) (hb1 : l1.length ≤ 70368744175616) (hb2 : l2.length ≤ 70368744175616) :
    CallV Try.prog 37 [r, s1, s2] w fun v w' => RowKit.Below w.heap.size w w' ∧
      ((l1.length ≤ 1024 ∧ l2.length ≤ 1024 ∧ ∃ s l, v = .tuple #[s, .int .i64 0] ∧ Ow w.heap.size w' s l ∧ tr l = l ∧ co l = co l1 * co l2 ∧ l.length ≤ l1.length + l2.length) ∨
       (¬ (l1.length ≤ 1024 ∧ l2.length ≤ 1024) ∧ v = .tuple #[.slice none 0 0, .int .i64 5])) := by
  refine run_polys_Ring_w_Mul (by simp) ?_
  simp only [c_polys_Ring_w_Mul, WS, List.getElem_cons_zero, List.getElem_cons_succ, Option.isNone_some, Option.isNone_none, List.getD_cons_zero, List.getD_cons_succ, I.at, atL, atO, atP, evp, evs, retV, ↓reduceIte, Nat.reduceEqDiff, reduceCtorEq]
  obtain ⟨e1, n1⟩ := h1.hd
  obtain ⟨e2, n2⟩ := h2.hd
  refine X_bsl (zs := [hd s1, hd s2]) (fill2 h1 h2) rfl fun ls w1 ho hB => ?_
  obtain ⟨b, mv, iv, rfl, -, -⟩ := id hr
  simp only [WS, List.getElem_cons_zero, List.getElem_cons_succ, Option.isNone_some, Option.isNone_none, List.getD_cons_zero, List.getD_cons_succ, I.at, atL, atO, atP, evp, evs, retV, ↓reduceIte, Nat.reduceEqDiff, reduceCtorEq]
  refine X_call0 ((polys_Ring_w_refuses_spec w1 _ ls _ ho.sl (by simp) (by simp [n1, n2]; omega)).mono ?_)
  rintro v w' ⟨rfl, rfl⟩
  have hiff : (∀ x ∈ [hd s1, hd s2], x.n ≤ 1024) = (l1.length ≤ 1024 ∧ l2.length ≤ 1024) := by simp [n1, n2]
  by_cases hsz : l1.length ≤ 1024 ∧ l2.length ≤ 1024
  · rw [if_pos (hiff.mpr hsz)]
    simp only [WS, List.getElem_cons_zero, List.getElem_cons_succ, Option.isNone_some, Option.isNone_none, List.getD_cons_zero, List.getD_cons_succ, I.at, atL, atO, atP, evp, evs, retV, ↓reduceIte, Nat.reduceEqDiff, reduceCtorEq, show decide ((0 : Int) = 0) = true from rfl]
    refine X_call0 ((polys_Ring_w_product_spec w' _ s1 s2 l1 l2 (hr.up hB) (h1.up hB) (h2.up hB) hb1 hb2).mono ?_)
    rintro v w2 ⟨l, ho, h3, h4, h5, hB2⟩
    simp only [WS, List.getElem_cons_zero, List.getElem_cons_succ, Option.isNone_some, Option.isNone_none, List.getD_cons_zero, List.getD_cons_succ, I.at, atL, atO, atP, evp, evs, retV, ↓reduceIte, Nat.reduceEqDiff, reduceCtorEq]
    exact ⟨hB.trans (hB2.mono hB.size), Or.inl ⟨hsz.1, hsz.2, v, l, rfl, ho.mono hB.size, h3, h4, h5⟩⟩
  · rw [if_neg (fun e => hsz (hiff.mp e))]
    simp only [WS, List.getElem_cons_zero, List.getElem_cons_succ, Option.isNone_some, Option.isNone_none, List.getD_cons_zero, List.getD_cons_succ, I.at, atL, atO, atP, evp, evs, retV, ↓reduceIte, Nat.reduceEqDiff, reduceCtorEq, show decide ((5 : Int) = 0) = false from rfl]
    exact ⟨hB, Or.inr hsz⟩
end Go.Proofs.Ytcdagkcchfibjaa.Fw

namespace Go.Proofs.Ytcdagkcchfibjaa.Fw
open Go Go.Fw
theorem polys_Ring_b_refuses_spec (w : World) (a : Addr) (s : Value) (hs : List Hd) (h : Sl w s hs) (hb : hs.length ≤ 1000) (hn : ∀ x ∈ hs, x.n ≤ 140737488355328) :
    CallV Try.prog 80 [.pointer (some a), s] w fun v w' => v = .int .i64 (if ∀ x ∈ hs, x.n ≤ 1024 then 0 else 5) ∧ w' = w := by
  refine run_polys_Ring_b_refuses (by simp) ?_
  simp only [c_polys_Ring_b_refuses, WS, List.getElem_cons_zero, List.getElem_cons_succ, Option.isNone_some, Option.isNone_none, List.getD_cons_zero, List.getD_cons_succ, I.at, atL, atO, atP, evp, evs, retV, ↓reduceIte, Nat.reduceEqDiff, reduceCtorEq, h.Xlen]
  refine loop_of (fun t w' => w' = w ∧ t 9 = s ∧ t 10 = .int .i64 (hs.length : Int) ∧ ∃ i : Nat, t 11 = .int .i64 (i : Int) ∧ i ≤ hs.length ∧ ∀ x ∈ hs.take i, x.n ≤ 1024) (fun t _ => hs.length - (toI (t 11)).toNat) ⟨rfl, rfl, rfl, 0, rfl, by omega, by simp⟩ ?_
  rintro t w' ⟨rfl, t9, t10, i, t11, hi, hall⟩
  by_cases hlt : i < hs.length
  · simp only [WS, List.getElem_cons_zero, List.getElem_cons_succ, Option.isNone_some, Option.isNone_none, List.getD_cons_zero, List.getD_cons_succ, I.at, atL, atO, atP, evp, evs, retV, ↓reduceIte, Nat.reduceEqDiff, reduceCtorEq, t9, t10, t11, show decide ((i : Int) < (hs.length : Int)) = true from decide_eq_true (by omega), h.Xix hlt, h.Xld hlt, cell_hd, X_lenS]
    by_cases hx : hs[i].n ≤ 1024
    · simp only [WS, List.getElem_cons_zero, List.getElem_cons_succ, Option.isNone_some, Option.isNone_none, List.getD_cons_zero, List.getD_cons_succ, I.at, atL, atO, atP, evp, evs, retV, ↓reduceIte, Nat.reduceEqDiff, reduceCtorEq, t9, t10, t11, show decide ((1024 : Int) < (hs[i].n : Int)) = false from decide_eq_false (by omega), wrap_id (show -9223372036854775808 ≤ (i : Int) + 1 by omega) (show (i : Int) + 1 < 9223372036854775808 by omega), toI_int]
      refine ⟨⟨i + 1, rfl, by omega, fun x hxm => ?_⟩, by omega⟩
      rw [List.take_add_one, List.getElem?_eq_getElem hlt] at hxm
      rcases List.mem_append.1 hxm with h1 | h1
      · exact hall x h1
      · simp at h1; subst h1; exact hx
    · have : ¬ ∀ x ∈ hs, x.n ≤ 1024 := fun h => hx (h _ (List.getElem_mem hlt))
      simp only [WS, List.getElem_cons_zero, List.getElem_cons_succ, Option.isNone_some, Option.isNone_none, List.getD_cons_zero, List.getD_cons_succ, I.at, atL, atO, atP, evp, evs, retV, ↓reduceIte, Nat.reduceEqDiff, reduceCtorEq, t9, t10, t11, show decide ((1024 : Int) < (hs[i].n : Int)) = true from decide_eq_true (by omega), if_neg this]
  · have : ∀ x ∈ hs, x.n ≤ 1024 := by
      rw [List.take_of_length_le (by omega)] at hall; exact hall
    simp only [WS, List.getElem_cons_zero, List.getElem_cons_succ, Option.isNone_some, Option.isNone_none, List.getD_cons_zero, List.getD_cons_succ, I.at, atL, atO, atP, evp, evs, retV, ↓reduceIte, Nat.reduceEqDiff, reduceCtorEq, t9, t10, t11, show decide ((i : Int) < (hs.length : Int)) = false from decide_eq_false (by omega), if_pos this]
theorem polys_Ring_b_Mul_spec (w : World) (r s1 s2 : Value) (l1 l2 : List (El 8)) (hr : Ring_b w r) (h1 : Sl w s1 l1) (h2 : Sl w s2 l2) (hb1 : l1.length ≤ 70368744175616) (hb2 : l2.length ≤ 70368744175616) :
    CallV Try.prog 39 [r, s1, s2] w fun v w' => RowKit.Below w.heap.size w w' ∧
      ((l1.length ≤ 1024 ∧ l2.length ≤ 1024 ∧ ∃ s l, v = .tuple #[s, .int .i64 0] ∧ Ow w.heap.size w' s l ∧ tr l = l ∧ co l = co l1 * co l2 ∧ l.length ≤ l1.length + l2.length) ∨
       (¬ (l1.length ≤ 1024 ∧ l2.length ≤ 1024) ∧ v = .tuple #[.slice none 0 0, .int .i64 5])) := by
  refine run_polys_Ring_b_Mul (by simp) ?_
  simp only [c_polys_Ring_b_Mul, WS, List.getElem_cons_zero, List.getElem_cons_succ, Option.isNone_some, Option.isNone_none, List.getD_cons_zero, List.getD_cons_succ, I.at, atL, atO, atP, evp, evs, retV, ↓reduceIte, Nat.reduceEqDiff, reduceCtorEq]
  obtain ⟨e1, n1⟩ := h1.hd
  obtain ⟨e2, n2⟩ := h2.hd
  refine X_bsl (zs := [hd s1, hd s2]) (fill2 h1 h2) rfl fun ls w1 ho hB => ?_
  obtain ⟨b, mv, iv, rfl, -, -⟩ := id hr
  simp only [WS, List.getElem_cons_zero, List.getElem_cons_succ, Option.isNone_some, Option.isNone_none, List.getD_cons_zero, List.getD_cons_succ, I.at, atL, atO, atP, evp, evs, retV, ↓reduceIte, Nat.reduceEqDiff, reduceCtorEq]
  refine X_call0 ((polys_Ring_b_refuses_spec w1 _ ls _ ho.sl (by simp) (by simp [n1, n2]; omega)).mono ?_)
  rintro v w' ⟨rfl, rfl⟩
  have hiff : (∀ x ∈ [hd s1, hd s2], x.n ≤ 1024) = (l1.length ≤ 1024 ∧ l2.length ≤ 1024) := by simp [n1, n2]
  by_cases hsz : l1.length ≤ 1024 ∧ l2.length ≤ 1024
  · rw [if_pos (hiff.mpr hsz)]
    simp only [WS, List.getElem_cons_zero, List.getElem_cons_succ, Option.isNone_some, Option.isNone_none, List.getD_cons_zero, List.getD_cons_succ, I.at, atL, atO, atP, evp, evs, retV, ↓reduceIte, Nat.reduceEqDiff, reduceCtorEq, show decide ((0 : Int) = 0) = true from rfl]
    refine X_call0 ((polys_Ring_b_product_spec w' _ s1 s2 l1 l2 (hr.up hB) (h1.up hB) (h2.up hB) hb1 hb2).mono ?_)
    rintro v w2 ⟨l, ho, h3, h4, h5, hB2⟩
    simp only [WS, List.getElem_cons_zero, List.getElem_cons_succ, Option.isNone_some, Option.isNone_none, List.getD_cons_zero, List.getD_cons_succ, I.at, atL, atO, atP, evp, evs, retV, ↓reduceIte, Nat.reduceEqDiff, reduceCtorEq]
    exact ⟨hB.trans (hB2.mono hB.size), Or.inl ⟨hsz.1, hsz.2, v, l, rfl, ho.mono hB.size, h3, h4, h5⟩⟩
  · rw [if_neg (fun e => hsz (hiff.mp e))]
    simp only [WS, List.getElem_cons_zero, List.getElem_cons_succ, Option.isNone_some, Option.isNone_none, List.getD_cons_zero, List.getD_cons_succ, I.at, atL, atO, atP, evp, evs, retV, ↓reduceIte, Nat.reduceEqDiff, reduceCtorEq, show decide ((5 : Int) = 0) = false from rfl]
    exact ⟨hB, Or.inr hsz⟩
theorem polys_Ring_b_Eval_spec (w : World) (r s : Value) (l : List (El 8)) (x : El 8) (hr : Ring_b w r) (h : Sl w s l) (hb : l.length ≤ 70368744175616) :
    CallV Try.prog 54 [r, s, .int .u8 (x.v.toNat : Int)] w fun v w' => v = .int .u8 ((evl l x).v.toNat : Int) ∧ RowKit.Below w.heap.size w w' := by
  obtain ⟨b, mv, iv, rfl, hrow, hm, hiv⟩ := hr
  refine run_polys_Ring_b_Eval (by simp) ?_
  simp only [c_polys_Ring_b_Eval, WS, List.getElem_cons_zero, List.getElem_cons_succ, Option.isNone_some, Option.isNone_none, List.getD_cons_zero, List.getD_cons_succ, I.at, atL, atO, atP, evp, evs, retV, ↓reduceIte, Nat.reduceEqDiff, reduceCtorEq, h.Xlen, wrap_id (show -9223372036854775808 ≤ (l.length : Int) - 1 by omega) (show (l.length : Int) - 1 < 9223372036854775808 by omega)]
  refine loop_of (fun t w' => t 0 = .pointer (some ⟨b, 0, none⟩) ∧ t 1 = s ∧ t 2 = .int .u8 (x.v.toNat : Int) ∧ RowKit.Below w.heap.size w w' ∧ ∃ k : Nat, t 8 = .int .i64 ((k : Int) - 1) ∧ k ≤ l.length ∧ t 7 = .int .u8 ((evl (l.drop k) x).v.toNat : Int)) (fun t _ => (toI (t 8) + 1).toNat)
    ⟨rfl, rfl, rfl, RowKit.Below.refl _ _, l.length, rfl, Nat.le_refl _, by rw [List.drop_length]; rfl⟩ ?_
  rintro t w' ⟨t0, t1, t2, hB, k, t8, hk, t7⟩
  rcases Nat.eq_zero_or_pos k with rfl | hp
  · rw [List.drop_zero] at t7
    simp only [WS, List.getElem_cons_zero, List.getElem_cons_succ, Option.isNone_some, Option.isNone_none, List.getD_cons_zero, List.getD_cons_succ, I.at, atL, atO, atP, evp, evs, retV, ↓reduceIte, Nat.reduceEqDiff, reduceCtorEq, t0, t1, t2, t7, t8, show decide ((0 : Int) ≤ ((0 : Nat) : Int) - 1) = false from rfl]
    exact hB
  · obtain ⟨k, rfl⟩ : ∃ j, k = j + 1 := ⟨k - 1, by omega⟩
    have e1 : ((k + 1 : Nat) : Int) - 1 = (k : Int) := by omega
    rw [e1] at t8
    have hkl : k < l.length := by omega
    obtain ⟨b', mv', iv', hbe, hrow', hm', -⟩ := (show Ring_b w (.pointer (some ⟨b, 0, none⟩)) from ⟨b, mv, iv, rfl, hrow, hm, hiv⟩).up hB
    cases hbe
    have hos := (h.up hB).drew
    simp only [WS, List.getElem_cons_zero, List.getElem_cons_succ, Option.isNone_some, Option.isNone_none, List.getD_cons_zero, List.getD_cons_succ, I.at, atL, atO, atP, evp, evs, retV, ↓reduceIte, Nat.reduceEqDiff, reduceCtorEq, t0, t1, t2, t7, t8, show decide ((0 : Int) ≤ (k : Int)) = true by simp]
    refine WP_dops ?_
    simp only [ES, List.mem_cons, List.not_mem_nil, implies_true, forall_const, WS, List.getElem_cons_zero, List.getElem_cons_succ, Option.isNone_some, Option.isNone_none, List.getD_cons_zero, List.getD_cons_succ, I.at, atL, atO, atP, evp, evs, retV, ↓reduceIte, Nat.reduceEqDiff, reduceCtorEq, t0, t1, t2, t7, t8, addr_add0, Nat.add_zero, hrow'.drew.Eld (show 0 < [mv', iv'].length by simp)]
    refine E_callK (Mul_b.call (w := w'.drew) hm' _ _ fun w4 hl => ?_)
    have hos4 := hl.sl hos
    have hsee := hos.sees hkl Try.prog
    rw [cell_e8] at hsee
    simp only [ES, List.mem_cons, List.not_mem_nil, implies_true, forall_const, WS, List.getElem_cons_zero, List.getElem_cons_succ, Option.isNone_some, Option.isNone_none, List.getD_cons_zero, List.getD_cons_succ, I.at, atL, atO, atP, evp, evs, retV, ↓reduceIte, Nat.reduceEqDiff, reduceCtorEq, t0, t1, t2, t7, t8, hos4.Eix hkl, hos4.Eld hkl, cell_e8, hsee, xor8, wrap_id (show -9223372036854775808 ≤ (k : Int) - 1 by omega) (show (k : Int) - 1 < 9223372036854775808 by omega), toI_int]
    refine ⟨⟨hl.bel (hB.trans ((bel_drew w').mono hB.size)) hB.size, k, rfl, by omega, ?_⟩, by omega⟩
    rw [evl_drop x l hkl, El.add_comm, El.mul_comm x]
end Go.Proofs.Ytcdagkcchfibjaa.Fw
