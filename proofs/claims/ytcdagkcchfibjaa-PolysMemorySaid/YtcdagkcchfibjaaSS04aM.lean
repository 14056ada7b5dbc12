import Derived.Test.YtcdagkcchfibjaaProg
import Derived.Test.YtcdagkcchfibjaaFwTM
import Derived.Test.YtcdagkcchfibjaaFwRM
import Derived.Test.YtcdagkcchfibjaaGfPM
set_option linter.all false
set_option linter.unusedVariables false
set_option linter.unusedSimpArgs false
set_option maxRecDepth 100000
set_option maxHeartbeats 1000000
namespace Go.Proofs.Ytcdagkcchfibjaa.Fw
open Go Go.Fw Go.Proofs
attribute [local irreducible] stepI
theorem follows : Try.prog.follows .mixedOrders = true := by kernel_rfl
def c_polys_Over8 : C := .seq (.ops [⟨0, (some 0), none, .mov (.c (.pointer none)), []⟩]) (.seq (.ops [⟨0, (some 2), none, .call (.c (.func (.func 73) #[] #[])) [], []⟩, ⟨1, (some 1), none, .mov (.t 2), []⟩]) (.seq (.ops [⟨0, (some 3), none, .mov (.t 1), []⟩, ⟨1, (some 4), none, .mkf 74 [.t 3] [], []⟩, ⟨2, (some 5), none, .mov (.t 1), []⟩, ⟨3, (some 6), none, .mkf 75 [.t 5] [], []⟩, ⟨4, (some 7), none, .bld [.nilFunc, .nilFunc] [(0, (1, .t 4)), (1, (1, .t 6))], []⟩, ⟨5, (some 8), none, .box 98 (.t 7), []⟩, ⟨6, (some 0), none, .mov (.t 8), []⟩]) .ret))
attribute [irreducible] c_polys_Over8
theorem run_polys_Over8 {args : List Value} {w : World} {K : Value → World → Prop} (hn : args.length ≤ 9) (h : WP Try.prog c_polys_Over8 (endQ [.t 0] K) (initT args) w) : CallV Try.prog 35 args w K :=
  call_of follows Try.func35 (by kernel_rfl) (by kernel_rfl) hn h
def c_polys_Over16 : C := .seq (.ops [⟨0, (some 0), none, .mov (.c (.pointer none)), []⟩]) (.seq (.ops [⟨0, (some 1), none, .bld [.nilFunc, .nilFunc] [(0, (1, .c (.func (.func 76) #[] #[]))), (1, (1, .c (.func (.func 77) #[] #[])))], []⟩, ⟨1, (some 2), none, .box 102 (.t 1), []⟩, ⟨2, (some 0), none, .mov (.t 2), []⟩]) .ret)
attribute [irreducible] c_polys_Over16
theorem run_polys_Over16 {args : List Value} {w : World} {K : Value → World → Prop} (hn : args.length ≤ 3) (h : WP Try.prog c_polys_Over16 (endQ [.t 0] K) (initT args) w) : CallV Try.prog 36 args w K :=
  call_of follows Try.func36 (by kernel_rfl) (by kernel_rfl) hn h
def c_gf8_New : C := .seq (.ops [⟨0, (some 0), none, .mov (.c (.pointer none)), []⟩]) (.seq (.ops [⟨0, (some 4), none, .bld [.int .u8 0, .int .u8 0, .int .u8 0, .int .u8 0, .int .u8 0, .int .u8 0, .int .u8 0, .int .u8 0, .int .u8 0, .int .u8 0, .int .u8 0, .int .u8 0, .int .u8 0, .int .u8 0, .int .u8 0, .int .u8 0, .int .u8 0, .int .u8 0, .int .u8 0, .int .u8 0, .int .u8 0, .int .u8 0, .int .u8 0, .int .u8 0, .int .u8 0, .int .u8 0, .int .u8 0, .int .u8 0, .int .u8 0, .int .u8 0, .int .u8 0, .int .u8 0, .int .u8 0, .int .u8 0, .int .u8 0, .int .u8 0, .int .u8 0, .int .u8 0, .int .u8 0, .int .u8 0, .int .u8 0, .int .u8 0, .int .u8 0, .int .u8 0, .int .u8 0, .int .u8 0, .int .u8 0, .int .u8 0, .int .u8 0, .int .u8 0, .int .u8 0, .int .u8 0, .int .u8 0, .int .u8 0, .int .u8 0, .int .u8 0, .int .u8 0, .int .u8 0, .int .u8 0, .int .u8 0, .int .u8 0, .int .u8 0, .int .u8 0, .int .u8 0, .int .u8 0, .int .u8 0, .int .u8 0, .int .u8 0, .int .u8 0, .int .u8 0, .int .u8 0, .int .u8 0, .int .u8 0, .int .u8 0, .int .u8 0, .int .u8 0, .int .u8 0, .int .u8 0, .int .u8 0, .int .u8 0, .int .u8 0, .int .u8 0, .int .u8 0, .int .u8 0, .int .u8 0, .int .u8 0, .int .u8 0, .int .u8 0, .int .u8 0, .int .u8 0, .int .u8 0, .int .u8 0, .int .u8 0, .int .u8 0, .int .u8 0, .int .u8 0, .int .u8 0, .int .u8 0, .int .u8 0, .int .u8 0, .int .u8 0, .int .u8 0, .int .u8 0, .int .u8 0, .int .u8 0, .int .u8 0, .int .u8 0, .int .u8 0, .int .u8 0, .int .u8 0, .int .u8 0, .int .u8 0, .int .u8 0, .int .u8 0, .int .u8 0, .int .u8 0, .int .u8 0, .int .u8 0, .int .u8 0, .int .u8 0, .int .u8 0, .int .u8 0, .int .u8 0, .int .u8 0, .int .u8 0, .int .u8 0, .int .u8 0, .int .u8 0, .int .u8 0, .int .u8 0, .int .u8 0, .int .u8 0, .int .u8 0, .int .u8 0, .int .u8 0, .int .u8 0, .int .u8 0, .int .u8 0, .int .u8 0, .int .u8 0, .int .u8 0, .int .u8 0, .int .u8 0, .int .u8 0, .int .u8 0, .int .u8 0, .int .u8 0, .int .u8 0, .int .u8 0, .int .u8 0, .int .u8 0, .int .u8 0, .int .u8 0, .int .u8 0, .int .u8 0, .int .u8 0, .int .u8 0, .int .u8 0, .int .u8 0, .int .u8 0, .int .u8 0, .int .u8 0, .int .u8 0, .int .u8 0, .int .u8 0, .int .u8 0, .int .u8 0, .int .u8 0, .int .u8 0, .int .u8 0, .int .u8 0, .int .u8 0, .int .u8 0, .int .u8 0, .int .u8 0, .int .u8 0, .int .u8 0, .int .u8 0, .int .u8 0, .int .u8 0, .int .u8 0, .int .u8 0, .int .u8 0, .int .u8 0, .int .u8 0, .int .u8 0, .int .u8 0, .int .u8 0, .int .u8 0, .int .u8 0, .int .u8 0, .int .u8 0, .int .u8 0, .int .u8 0, .int .u8 0, .int .u8 0, .int .u8 0, .int .u8 0, .int .u8 0, .int .u8 0, .int .u8 0, .int .u8 0, .int .u8 0, .int .u8 0, .int .u8 0, .int .u8 0, .int .u8 0, .int .u8 0, .int .u8 0, .int .u8 0, .int .u8 0, .int .u8 0, .int .u8 0, .int .u8 0, .int .u8 0, .int .u8 0, .int .u8 0, .int .u8 0, .int .u8 0, .int .u8 0, .int .u8 0, .int .u8 0, .int .u8 0, .int .u8 0, .int .u8 0, .int .u8 0, .int .u8 0, .int .u8 0, .int .u8 0, .int .u8 0, .int .u8 0, .int .u8 0, .int .u8 0, .int .u8 0, .int .u8 0, .int .u8 0, .int .u8 0, .int .u8 0, .int .u8 0, .int .u8 0, .int .u8 0, .int .u8 0, .int .u8 0, .int .u8 0, .int .u8 0, .int .u8 0, .int .u8 0, .int .u8 0, .int .u8 0, .int .u8 0, .int .u8 0, .int .u8 0, .int .u8 0, .int .u8 0, .int .u8 0, .int .u8 0, .int .u8 0, .int .u8 0, .int .u8 0, .int .u8 0, .int .u8 0, .int .u8 0, .int .u8 0, .int .u8 0, .int .u8 0, .int .u8 0, .int .u8 0, .int .u8 0, .int .u8 0, .int .u8 0, .int .u8 0, .int .u8 0, .int .u8 0, .int .u8 0, .int .u8 0, .int .u8 0, .int .u8 0, .int .u8 0, .int .u8 0, .int .u8 0, .int .u8 0, .int .u8 0, .int .u8 0, .int .u8 0, .int .u8 0, .int .u8 0, .int .u8 0, .int .u8 0, .int .u8 0, .int .u8 0, .int .u8 0, .int .u8 0, .int .u8 0, .int .u8 0, .int .u8 0, .int .u8 0, .int .u8 0, .int .u8 0, .int .u8 0, .int .u8 0, .int .u8 0, .int .u8 0, .int .u8 0, .int .u8 0, .int .u8 0, .int .u8 0, .int .u8 0, .int .u8 0, .int .u8 0, .int .u8 0, .int .u8 0, .int .u8 0, .int .u8 0, .int .u8 0, .int .u8 0, .int .u8 0, .int .u8 0, .int .u8 0, .int .u8 0, .int .u8 0, .int .u8 0, .int .u8 0, .int .u8 0, .int .u8 0, .int .u8 0, .int .u8 0, .int .u8 0, .int .u8 0, .int .u8 0, .int .u8 0, .int .u8 0, .int .u8 0, .int .u8 0, .int .u8 0, .int .u8 0, .int .u8 0, .int .u8 0, .int .u8 0, .int .u8 0, .int .u8 0, .int .u8 0, .int .u8 0, .int .u8 0, .int .u8 0, .int .u8 0, .int .u8 0, .int .u8 0, .int .u8 0, .int .u8 0, .int .u8 0, .int .u8 0, .int .u8 0, .int .u8 0, .int .u8 0, .int .u8 0, .int .u8 0, .int .u8 0, .int .u8 0, .int .u8 0, .int .u8 0, .int .u8 0, .int .u8 0, .int .u8 0, .int .u8 0, .int .u8 0, .int .u8 0, .int .u8 0, .int .u8 0, .int .u8 0, .int .u8 0, .int .u8 0, .int .u8 0, .int .u8 0, .int .u8 0, .int .u8 0, .int .u8 0, .int .u8 0, .int .u8 0, .int .u8 0, .int .u8 0, .int .u8 0, .int .u8 0, .int .u8 0, .int .u8 0, .int .u8 0, .int .u8 0, .int .u8 0, .int .u8 0, .int .u8 0, .int .u8 0, .int .u8 0, .int .u8 0, .int .u8 0, .int .u8 0, .int .u8 0, .int .u8 0, .int .u8 0, .int .u8 0, .int .u8 0, .int .u8 0, .int .u8 0, .int .u8 0, .int .u8 0, .int .u8 0, .int .u8 0, .int .u8 0, .int .u8 0, .int .u8 0, .int .u8 0, .int .u8 0, .int .u8 0, .int .u8 0, .int .u8 0, .int .u8 0, .int .u8 0, .int .u8 0, .int .u8 0, .int .u8 0, .int .u8 0, .int .u8 0, .int .u8 0, .int .u8 0, .int .u8 0, .int .u8 0, .int .u8 0, .int .u8 0, .int .u8 0, .int .u8 0, .int .u8 0, .int .u8 0, .int .u8 0, .int .u8 0, .int .u8 0, .int .u8 0, .int .u8 0, .int .u8 0, .int .u8 0, .int .u8 0, .int .u8 0, .int .u8 0, .int .u8 0, .int .u8 0, .int .u8 0, .int .u8 0, .int .u8 0, .int .u8 0, .int .u8 0, .int .u8 0, .int .u8 0, .int .u8 0, .int .u8 0, .int .u8 0, .int .u8 0, .int .u8 0, .int .u8 0, .int .u8 0, .int .u8 0, .int .u8 0, .int .u8 0, .int .u8 0, .int .u8 0, .int .u8 0, .int .u8 0, .int .u8 0, .int .u8 0, .int .u8 0, .int .u8 0, .int .u8 0, .int .u8 0, .int .u8 0, .int .u8 0, .int .u8 0, .int .u8 0, .int .u8 0, .int .u8 0, .int .u8 0, .int .u8 0, .int .u8 0, .int .u8 0, .int .u8 0, .int .u8 0, .int .u8 0, .int .u8 0, .int .u8 0, .int .u8 0, .int .u8 0, .int .u8 0, .int .u8 0, .int .u8 0, .int .u8 0, .int .u8 0, .int .u8 0, .int .u8 0, .int .u8 0, .int .u8 0, .int .u8 0, .int .u8 0, .int .u8 0, .int .u8 0, .int .u8 0, .int .u8 0, .int .u8 0, .int .u8 0, .int .u8 0, .int .u8 0, .int .u8 0, .int .u8 0, .int .u8 0, .int .u8 0, .int .u8 0, .int .i64 0, .int .i64 0, .int .i64 0, .int .i64 0, .int .i64 0, .int .i64 0, .int .i64 0, .int .i64 0, .int .i64 0, .int .i64 0, .int .i64 0, .int .i64 0, .int .i64 0, .int .i64 0, .int .i64 0, .int .i64 0, .int .i64 0, .int .i64 0, .int .i64 0, .int .i64 0, .int .i64 0, .int .i64 0, .int .i64 0, .int .i64 0, .int .i64 0, .int .i64 0, .int .i64 0, .int .i64 0, .int .i64 0, .int .i64 0, .int .i64 0, .int .i64 0, .int .i64 0, .int .i64 0, .int .i64 0, .int .i64 0, .int .i64 0, .int .i64 0, .int .i64 0, .int .i64 0, .int .i64 0, .int .i64 0, .int .i64 0, .int .i64 0, .int .i64 0, .int .i64 0, .int .i64 0, .int .i64 0, .int .i64 0, .int .i64 0, .int .i64 0, .int .i64 0, .int .i64 0, .int .i64 0, .int .i64 0, .int .i64 0, .int .i64 0, .int .i64 0, .int .i64 0, .int .i64 0, .int .i64 0, .int .i64 0, .int .i64 0, .int .i64 0, .int .i64 0, .int .i64 0, .int .i64 0, .int .i64 0, .int .i64 0, .int .i64 0, .int .i64 0, .int .i64 0, .int .i64 0, .int .i64 0, .int .i64 0, .int .i64 0, .int .i64 0, .int .i64 0, .int .i64 0, .int .i64 0, .int .i64 0, .int .i64 0, .int .i64 0, .int .i64 0, .int .i64 0, .int .i64 0, .int .i64 0, .int .i64 0, .int .i64 0, .int .i64 0, .int .i64 0, .int .i64 0, .int .i64 0, .int .i64 0, .int .i64 0, .int .i64 0, .int .i64 0, .int .i64 0, .int .i64 0, .int .i64 0, .int .i64 0, .int .i64 0, .int .i64 0, .int .i64 0, .int .i64 0, .int .i64 0, .int .i64 0, .int .i64 0, .int .i64 0, .int .i64 0, .int .i64 0, .int .i64 0, .int .i64 0, .int .i64 0, .int .i64 0, .int .i64 0, .int .i64 0, .int .i64 0, .int .i64 0, .int .i64 0, .int .i64 0, .int .i64 0, .int .i64 0, .int .i64 0, .int .i64 0, .int .i64 0, .int .i64 0, .int .i64 0, .int .i64 0, .int .i64 0, .int .i64 0, .int .i64 0, .int .i64 0, .int .i64 0, .int .i64 0, .int .i64 0, .int .i64 0, .int .i64 0, .int .i64 0, .int .i64 0, .int .i64 0, .int .i64 0, .int .i64 0, .int .i64 0, .int .i64 0, .int .i64 0, .int .i64 0, .int .i64 0, .int .i64 0, .int .i64 0, .int .i64 0, .int .i64 0, .int .i64 0, .int .i64 0, .int .i64 0, .int .i64 0, .int .i64 0, .int .i64 0, .int .i64 0, .int .i64 0, .int .i64 0, .int .i64 0, .int .i64 0, .int .i64 0, .int .i64 0, .int .i64 0, .int .i64 0, .int .i64 0, .int .i64 0, .int .i64 0, .int .i64 0, .int .i64 0, .int .i64 0, .int .i64 0, .int .i64 0, .int .i64 0, .int .i64 0, .int .i64 0, .int .i64 0, .int .i64 0, .int .i64 0, .int .i64 0, .int .i64 0, .int .i64 0, .int .i64 0, .int .i64 0, .int .i64 0, .int .i64 0, .int .i64 0, .int .i64 0, .int .i64 0, .int .i64 0, .int .i64 0, .int .i64 0, .int .i64 0, .int .i64 0, .int .i64 0, .int .i64 0, .int .i64 0, .int .i64 0, .int .i64 0, .int .i64 0, .int .i64 0, .int .i64 0, .int .i64 0, .int .i64 0, .int .i64 0, .int .i64 0, .int .i64 0, .int .i64 0, .int .i64 0, .int .i64 0, .int .i64 0, .int .i64 0, .int .i64 0, .int .i64 0, .int .i64 0, .int .i64 0, .int .i64 0, .int .i64 0, .int .i64 0, .int .i64 0, .int .i64 0, .int .i64 0, .int .i64 0, .int .i64 0, .int .i64 0, .int .i64 0, .int .i64 0, .int .i64 0, .int .i64 0, .int .i64 0, .int .i64 0, .int .i64 0, .int .i64 0, .int .i64 0, .int .i64 0, .int .i64 0, .int .i64 0, .int .i64 0, .int .i64 0, .int .i64 0, .int .i64 0, .int .i64 0, .int .i64 0, .int .i64 0, .int .i64 0, .int .i64 0, .int .i64 0, .int .i64 0, .int .i64 0, .int .i64 0, .int .i64 0, .int .i64 0, .int .i64 0, .int .i64 0] [], []⟩, ⟨1, (some 5), none, .box 114 (.t 4), []⟩, ⟨2, (some 1), none, .mov (.t 5), []⟩]) (.seq (.ops [⟨0, (some 2), none, .mov (.c (.int .u8 1)), []⟩]) (.seq (.seq (.ops [⟨0, (some 6), none, .mov (.c (.int .i64 0)), []⟩]) (.block 0 (.loop (.seq (.ops [⟨0, (some 7), none, .bin .lss (.t 6) (.c (.int .i64 255)), []⟩]) (.seq (.ite (.t 7) .skip (.exit 0)) (.seq (.block 1 (.seq (.ops [⟨0, (some 8), none, .mov (.t 6), []⟩, ⟨1, (some 3), none, .mov (.t 8), []⟩]) (.seq (.dops [⟨0, (some 9), none, .mov (.t 1), []⟩, ⟨1, (some 10), none, .mov (.t 3), []⟩, ⟨2, (some 11), none, .mov (.t 1), []⟩, ⟨3, (some 12), none, .mov (.t 3), []⟩, ⟨4, (some 13), none, .bin .add (.t 12) (.c (.int .i64 255)), []⟩, ⟨5, (some 14), none, .mov (.t 2), []⟩, ⟨6, (some 15), none, .mov (.t 2), []⟩, ⟨7, (some 16), none, .nil (.t 9), []⟩, ⟨8, (some 17), none, .fad 0 (.t 16), []⟩, ⟨9, (some 18), none, .ixa 510 1 (.t 17) (.t 10), []⟩, ⟨10, none, none, .st (.t 18) (.t 14), []⟩, ⟨11, (some 19), none, .nil (.t 11), []⟩, ⟨12, (some 20), none, .fad 0 (.t 19), []⟩, ⟨13, (some 21), none, .ixa 510 1 (.t 20) (.t 13), []⟩, ⟨14, none, none, .st (.t 21) (.t 15), []⟩]) (.seq (.ops [⟨0, (some 22), none, .mov (.t 1), []⟩, ⟨1, (some 23), none, .mov (.t 2), []⟩, ⟨2, (some 24), none, .mov (.t 3), []⟩, ⟨3, (some 25), none, .nil (.t 22), []⟩, ⟨4, (some 26), none, .fad 510 (.t 25), []⟩, ⟨5, (some 27), none, .ixa 256 1 (.t 26) (.t 23), []⟩, ⟨6, none, none, .st (.t 27) (.t 24), []⟩]) (.ops [⟨0, (some 28), none, .mov (.t 2), []⟩, ⟨1, (some 29), none, .call (.c (.func (.func 86) #[] #[])) [.t 28, .c (.int .u8 2)], []⟩, ⟨2, (some 2), none, .mov (.t 29), []⟩]))))) (.ops [⟨0, (some 30), none, .bin .add (.t 6) (.c (.int .i64 1)), []⟩, ⟨1, (some 6), none, .mov (.t 30), []⟩]))))))) (.seq (.ops [⟨0, (some 31), none, .mov (.t 1), []⟩, ⟨1, (some 0), none, .mov (.t 31), []⟩]) .ret))))
attribute [irreducible] c_gf8_New
theorem run_gf8_New {args : List Value} {w : World} {K : Value → World → Prop} (hn : args.length ≤ 32) (h : WP Try.prog c_gf8_New (endQ [.t 0] K) (initT args) w) : CallV Try.prog 73 args w K :=
  call_of follows Try.func73 (by kernel_rfl) (by kernel_rfl) hn h
def c_gf8_Tables_Mul : C := .seq (.ops [⟨0, (some 6), none, .mov (.c (.int .u8 0)), []⟩]) (.seq (.seq (.ops [⟨0, (some 7), none, .mov (.t 0), []⟩, ⟨1, (some 8), none, .eqp false (.t 7) (.c (.pointer none)), []⟩, ⟨2, (some 9), none, .mov (.t 8), []⟩, ⟨3, (some 10), (some (9, false)), .mov (.t 1), []⟩, ⟨4, (some 11), (some (9, false)), .bin .eql (.t 10) (.c (.int .u8 0)), []⟩, ⟨5, (some 12), none, .pick (.t 9) (.c (.bool true)) (.t 11), []⟩, ⟨6, (some 13), none, .mov (.t 12), []⟩, ⟨7, (some 14), (some (13, false)), .mov (.t 2), []⟩, ⟨8, (some 15), (some (13, false)), .bin .eql (.t 14) (.c (.int .u8 0)), []⟩, ⟨9, (some 16), none, .pick (.t 13) (.c (.bool true)) (.t 15), []⟩]) (.ite (.t 16) (.seq (.ops [⟨0, (some 6), none, .mov (.c (.int .u8 0)), []⟩]) .ret) .skip)) (.seq (.dops [⟨0, (some 17), none, .mov (.t 0), []⟩, ⟨1, (some 18), none, .mov (.t 0), []⟩, ⟨2, (some 19), none, .mov (.t 1), []⟩, ⟨3, (some 20), none, .nil (.t 18), []⟩, ⟨4, (some 21), none, .fad 510 (.t 20), []⟩, ⟨5, (some 22), none, .ixa 256 1 (.t 21) (.t 19), []⟩, ⟨6, (some 23), none, .ld (.t 22), []⟩, ⟨7, (some 24), none, .mov (.t 0), []⟩, ⟨8, (some 25), none, .mov (.t 2), []⟩, ⟨9, (some 26), none, .nil (.t 24), []⟩, ⟨10, (some 27), none, .fad 510 (.t 26), []⟩, ⟨11, (some 28), none, .ixa 256 1 (.t 27) (.t 25), []⟩, ⟨12, (some 29), none, .ld (.t 28), []⟩, ⟨13, (some 30), none, .bin .add (.t 23) (.t 29), []⟩, ⟨14, (some 31), none, .nil (.t 17), []⟩, ⟨15, (some 32), none, .fad 0 (.t 31), []⟩, ⟨16, (some 33), none, .ixa 510 1 (.t 32) (.t 30), []⟩, ⟨17, (some 34), none, .ld (.t 33), []⟩, ⟨18, (some 6), none, .mov (.t 34), []⟩]) .ret))
attribute [irreducible] c_gf8_Tables_Mul
theorem run_gf8_Tables_Mul {args : List Value} {w : World} {K : Value → World → Prop} (hn : args.length ≤ 35) (h : WP Try.prog c_gf8_Tables_Mul (endQ [.t 6] K) (initT args) w) : CallV Try.prog 74 args w K :=
  call_of follows Try.func74 (by kernel_rfl) (by kernel_rfl) hn h
def c_gf8_Tables_Inv : C := .seq (.ops [⟨0, (some 4), none, .mov (.c (.int .u8 0)), []⟩, ⟨1, (some 5), none, .mov (.c (.int .i64 0)), []⟩]) (.seq (.block 0 (.seq (.ops [⟨0, (some 7), none, .mov (.t 0), []⟩, ⟨1, (some 8), none, .eqp false (.t 7) (.c (.pointer none)), []⟩, ⟨2, (some 6), none, .mov (.t 8), []⟩]) (.ite (.t 6) (.seq (.ops [⟨0, (some 4), none, .mov (.c (.int .u8 0)), []⟩, ⟨1, (some 5), none, .mov (.c (.int .i64 1)), []⟩]) .ret) (.seq (.ops [⟨0, (some 10), none, .mov (.t 1), []⟩, ⟨1, (some 11), none, .bin .eql (.t 10) (.c (.int .u8 0)), []⟩, ⟨2, (some 9), none, .mov (.t 11), []⟩]) (.ite (.t 9) (.seq (.ops [⟨0, (some 4), none, .mov (.c (.int .u8 0)), []⟩, ⟨1, (some 5), none, .mov (.c (.int .i64 20)), []⟩]) .ret) .skip))))) (.seq (.dops [⟨0, (some 12), none, .mov (.t 0), []⟩, ⟨1, (some 13), none, .mov (.t 0), []⟩, ⟨2, (some 14), none, .mov (.t 1), []⟩, ⟨3, (some 15), none, .nil (.t 13), []⟩, ⟨4, (some 16), none, .fad 510 (.t 15), []⟩, ⟨5, (some 17), none, .ixa 256 1 (.t 16) (.t 14), []⟩, ⟨6, (some 18), none, .ld (.t 17), []⟩, ⟨7, (some 19), none, .bin .sub (.c (.int .i64 255)) (.t 18), []⟩, ⟨8, (some 20), none, .nil (.t 12), []⟩, ⟨9, (some 21), none, .fad 0 (.t 20), []⟩, ⟨10, (some 22), none, .ixa 510 1 (.t 21) (.t 19), []⟩, ⟨11, (some 23), none, .ld (.t 22), []⟩, ⟨12, (some 4), none, .mov (.t 23), []⟩, ⟨13, (some 5), none, .mov (.c (.int .i64 0)), []⟩]) .ret))
attribute [irreducible] c_gf8_Tables_Inv
theorem run_gf8_Tables_Inv {args : List Value} {w : World} {K : Value → World → Prop} (hn : args.length ≤ 24) (h : WP Try.prog c_gf8_Tables_Inv (endQ [.t 4, .t 5] K) (initT args) w) : CallV Try.prog 75 args w K :=
  call_of follows Try.func75 (by kernel_rfl) (by kernel_rfl) hn h
def c_gf16_Mul : C := .seq (.ops [⟨0, (some 4), none, .mov (.c (.int .u16 0)), []⟩]) (.seq (.ops [⟨0, (some 8), none, .mov (.t 0), []⟩, ⟨1, (some 9), none, .cnv .u64 (.t 8), []⟩, ⟨2, (some 10), none, .mov (.t 1), []⟩, ⟨3, (some 11), none, .cnv .u64 (.t 10), []⟩, ⟨4, (some 12), none, .call (.c (.func (.func 95) #[] #[])) [.t 9, .t 11, .c (.int .u64 65581)], []⟩, ⟨5, (some 7), none, .mov (.t 12), []⟩, ⟨6, (some 13), none, .ext (.t 7) 0, []⟩, ⟨7, (some 14), none, .ext (.t 7) 1, []⟩, ⟨8, (some 5), none, .mov (.t 13), []⟩, ⟨9, (some 6), none, .mov (.t 14), []⟩]) (.seq (.ops [⟨0, (some 15), none, .mov (.t 5), []⟩, ⟨1, (some 16), none, .cnv .u16 (.t 15), []⟩, ⟨2, (some 4), none, .mov (.t 16), []⟩]) .ret))
attribute [irreducible] c_gf16_Mul
theorem run_gf16_Mul {args : List Value} {w : World} {K : Value → World → Prop} (hn : args.length ≤ 17) (h : WP Try.prog c_gf16_Mul (endQ [.t 4] K) (initT args) w) : CallV Try.prog 76 args w K :=
  call_of follows Try.func76 (by kernel_rfl) (by kernel_rfl) hn h
def c_gf8_Mul : C := .seq (.ops [⟨0, (some 4), none, .mov (.c (.int .u8 0)), []⟩]) (.seq (.ops [⟨0, (some 7), none, .mov (.t 0), []⟩, ⟨1, (some 8), none, .cnv .u64 (.t 7), []⟩, ⟨2, (some 5), none, .mov (.t 8), []⟩, ⟨3, (some 6), none, .mov (.c (.int .u64 0)), []⟩]) (.seq (.block 0 (.loop (.seq (.seq (.ops [⟨0, (some 9), none, .mov (.t 1), []⟩, ⟨1, (some 10), none, .bin .neq (.t 9) (.c (.int .u8 0)), []⟩]) (.ite (.t 10) .skip (.exit 0))) (.seq (.block 1 (.seq (.seq (.ops [⟨0, (some 13), none, .mov (.t 1), []⟩, ⟨1, (some 14), none, .bin .and (.t 13) (.c (.int .u8 1)), []⟩, ⟨2, (some 15), none, .bin .neq (.t 14) (.c (.int .u8 0)), []⟩]) (.ite (.t 15) (.ops [⟨0, (some 16), none, .mov (.t 6), []⟩, ⟨1, (some 17), none, .mov (.t 5), []⟩, ⟨2, (some 18), none, .bin .xor (.t 16) (.t 17), []⟩, ⟨3, (some 6), none, .mov (.t 18), []⟩]) .skip)) (.seq (.ops [⟨0, (some 19), none, .mov (.t 5), []⟩, ⟨1, (some 20), none, .bin .shl (.t 19) (.c (.int .u64 1)), []⟩, ⟨2, (some 5), none, .mov (.t 20), []⟩]) (.seq (.ops [⟨0, (some 21), none, .mov (.t 5), []⟩, ⟨1, (some 22), none, .bin .and (.t 21) (.c (.int .u64 256)), []⟩, ⟨2, (some 23), none, .bin .neq (.t 22) (.c (.int .u64 0)), []⟩]) (.ite (.t 23) (.ops [⟨0, (some 24), none, .mov (.t 5), []⟩, ⟨1, (some 25), none, .bin .xor (.t 24) (.c (.int .u64 285)), []⟩, ⟨2, (some 5), none, .mov (.t 25), []⟩]) .skip))))) (.ops [⟨0, (some 11), none, .mov (.t 1), []⟩, ⟨1, (some 12), none, .bin .shr (.t 11) (.c (.int .u64 1)), []⟩, ⟨2, (some 1), none, .mov (.t 12), []⟩]))))) (.seq (.ops [⟨0, (some 26), none, .mov (.t 6), []⟩, ⟨1, (some 27), none, .cnv .u8 (.t 26), []⟩, ⟨2, (some 4), none, .mov (.t 27), []⟩]) .ret)))
attribute [irreducible] c_gf8_Mul
theorem run_gf8_Mul {args : List Value} {w : World} {K : Value → World → Prop} (hn : args.length ≤ 28) (h : WP Try.prog c_gf8_Mul (endQ [.t 4] K) (initT args) w) : CallV Try.prog 86 args w K :=
  call_of follows Try.func86 (by kernel_rfl) (by kernel_rfl) hn h
def c_ring_MulMod : C := .seq (.ops [⟨0, (some 6), none, .mov (.c (.int .u64 0)), []⟩, ⟨1, (some 7), none, .mov (.c (.int .i64 0)), []⟩]) (.seq (.seq (.ops [⟨0, (some 8), none, .mov (.t 2), []⟩, ⟨1, (some 9), none, .call (.c (.func (.func 97) #[] #[])) [.t 8, .c (.int .i64 32)], []⟩, ⟨2, (some 10), none, .un .not (.t 9), []⟩]) (.ite (.t 10) (.seq (.ops [⟨0, (some 6), none, .mov (.c (.int .u64 0)), []⟩, ⟨1, (some 7), none, .mov (.c (.int .i64 11)), []⟩]) .ret) .skip)) (.seq (.ops [⟨0, (some 11), none, .mov (.t 0), []⟩, ⟨1, (some 12), none, .mov (.t 1), []⟩, ⟨2, (some 13), none, .mov (.t 2), []⟩, ⟨3, (some 14), none, .call (.c (.func (.func 98) #[] #[])) [.t 11, .t 12, .t 13], []⟩, ⟨4, (some 6), none, .mov (.t 14), []⟩, ⟨5, (some 7), none, .mov (.c (.int .i64 0)), []⟩]) .ret))
attribute [irreducible] c_ring_MulMod
theorem run_ring_MulMod {args : List Value} {w : World} {K : Value → World → Prop} (hn : args.length ≤ 15) (h : WP Try.prog c_ring_MulMod (endQ [.t 6, .t 7] K) (initT args) w) : CallV Try.prog 95 args w K :=
  call_of follows Try.func95 (by kernel_rfl) (by kernel_rfl) hn h
def c_ring_isModulus : C := .seq (.ops [⟨0, (some 4), none, .mov (.c (.bool false)), []⟩]) (.seq (.ops [⟨0, (some 6), none, .mov (.t 0), []⟩, ⟨1, (some 7), none, .call (.c (.func (.func 100) #[] #[])) [.t 6], []⟩, ⟨2, (some 5), none, .mov (.t 7), []⟩]) (.seq (.ops [⟨0, (some 8), none, .mov (.t 5), []⟩, ⟨1, (some 9), none, .bin .geq (.t 8) (.c (.int .i64 1)), []⟩, ⟨2, (some 10), none, .mov (.t 9), []⟩, ⟨3, (some 11), (some (10, true)), .mov (.t 5), []⟩, ⟨4, (some 12), (some (10, true)), .mov (.t 1), []⟩, ⟨5, (some 13), (some (10, true)), .bin .leq (.t 11) (.t 12), []⟩, ⟨6, (some 14), none, .pick (.t 10) (.t 13) (.c (.bool false)), []⟩, ⟨7, (some 4), none, .mov (.t 14), []⟩]) .ret))
attribute [irreducible] c_ring_isModulus
theorem run_ring_isModulus {args : List Value} {w : World} {K : Value → World → Prop} (hn : args.length ≤ 15) (h : WP Try.prog c_ring_isModulus (endQ [.t 4] K) (initT args) w) : CallV Try.prog 97 args w K :=
  call_of follows Try.func97 (by kernel_rfl) (by kernel_rfl) hn h
def c_ring_mulMod : C := .seq (.ops [⟨0, (some 6), none, .mov (.c (.int .u64 0)), []⟩]) (.seq (.ops [⟨0, (some 11), none, .mov (.t 0), []⟩, ⟨1, (some 12), none, .mov (.t 2), []⟩, ⟨2, (some 13), none, .call (.c (.func (.func 99) #[] #[])) [.t 11, .t 12], []⟩, ⟨3, (some 10), none, .mov (.t 13), []⟩, ⟨4, (some 14), none, .ext (.t 10) 0, []⟩, ⟨5, (some 15), none, .ext (.t 10) 1, []⟩, ⟨6, (some 0), none, .mov (.t 15), []⟩]) (.seq (.ops [⟨0, (some 17), none, .mov (.t 1), []⟩, ⟨1, (some 18), none, .mov (.t 2), []⟩, ⟨2, (some 19), none, .call (.c (.func (.func 99) #[] #[])) [.t 17, .t 18], []⟩, ⟨3, (some 16), none, .mov (.t 19), []⟩, ⟨4, (some 20), none, .ext (.t 16) 0, []⟩, ⟨5, (some 21), none, .ext (.t 16) 1, []⟩, ⟨6, (some 1), none, .mov (.t 21), []⟩]) (.seq (.ops [⟨0, (some 22), none, .mov (.t 2), []⟩, ⟨1, (some 23), none, .call (.c (.func (.func 100) #[] #[])) [.t 22], []⟩, ⟨2, (some 7), none, .mov (.t 23), []⟩]) (.seq (.ops [⟨0, (some 8), none, .mov (.c (.int .u64 0)), []⟩]) (.seq (.seq (.ops [⟨0, (some 24), none, .mov (.t 7), []⟩, ⟨1, (some 25), none, .bin .sub (.t 24) (.c (.int .i64 1)), []⟩, ⟨2, (some 9), none, .mov (.t 25), []⟩]) (.block 0 (.loop (.seq (.seq (.ops [⟨0, (some 26), none, .mov (.t 9), []⟩, ⟨1, (some 27), none, .bin .geq (.t 26) (.c (.int .i64 0)), []⟩]) (.ite (.t 27) .skip (.exit 0))) (.seq (.block 1 (.seq (.ops [⟨0, (some 30), none, .mov (.t 8), []⟩, ⟨1, (some 31), none, .bin .shl (.t 30) (.c (.int .u64 1)), []⟩, ⟨2, (some 8), none, .mov (.t 31), []⟩]) (.seq (.seq (.ops [⟨0, (some 32), none, .mov (.t 8), []⟩, ⟨1, (some 33), none, .mov (.t 7), []⟩, ⟨2, (some 34), none, .bin .shr (.t 32) (.t 33), []⟩, ⟨3, (some 35), none, .bin .and (.t 34) (.c (.int .u64 1)), []⟩, ⟨4, (some 36), none, .bin .eql (.t 35) (.c (.int .u64 1)), []⟩]) (.ite (.t 36) (.ops [⟨0, (some 37), none, .mov (.t 8), []⟩, ⟨1, (some 38), none, .mov (.t 2), []⟩, ⟨2, (some 39), none, .bin .xor (.t 37) (.t 38), []⟩, ⟨3, (some 8), none, .mov (.t 39), []⟩]) .skip)) (.seq (.ops [⟨0, (some 40), none, .mov (.t 1), []⟩, ⟨1, (some 41), none, .mov (.t 9), []⟩, ⟨2, (some 42), none, .bin .shr (.t 40) (.t 41), []⟩, ⟨3, (some 43), none, .bin .and (.t 42) (.c (.int .u64 1)), []⟩, ⟨4, (some 44), none, .bin .eql (.t 43) (.c (.int .u64 1)), []⟩]) (.ite (.t 44) (.ops [⟨0, (some 45), none, .mov (.t 8), []⟩, ⟨1, (some 46), none, .mov (.t 0), []⟩, ⟨2, (some 47), none, .bin .xor (.t 45) (.t 46), []⟩, ⟨3, (some 8), none, .mov (.t 47), []⟩]) .skip))))) (.ops [⟨0, (some 28), none, .mov (.t 9), []⟩, ⟨1, (some 29), none, .bin .sub (.t 28) (.c (.int .i64 1)), []⟩, ⟨2, (some 9), none, .mov (.t 29), []⟩])))))) (.seq (.ops [⟨0, (some 48), none, .mov (.t 8), []⟩, ⟨1, (some 6), none, .mov (.t 48), []⟩]) .ret))))))
attribute [irreducible] c_ring_mulMod
theorem run_ring_mulMod {args : List Value} {w : World} {K : Value → World → Prop} (hn : args.length ≤ 49) (h : WP Try.prog c_ring_mulMod (endQ [.t 6] K) (initT args) w) : CallV Try.prog 98 args w K :=
  call_of follows Try.func98 (by kernel_rfl) (by kernel_rfl) hn h
def c_ring_divMod : C := .seq (.ops [⟨0, (some 4), none, .mov (.c (.int .u64 0)), []⟩, ⟨1, (some 5), none, .mov (.c (.int .u64 0)), []⟩]) (.seq (.ops [⟨0, (some 8), none, .mov (.t 1), []⟩, ⟨1, (some 9), none, .call (.c (.func (.func 100) #[] #[])) [.t 8], []⟩, ⟨2, (some 6), none, .mov (.t 9), []⟩]) (.block 0 (.loop (.block 1 (.seq (.ops [⟨0, (some 10), none, .mov (.t 0), []⟩, ⟨1, (some 11), none, .call (.c (.func (.func 100) #[] #[])) [.t 10], []⟩, ⟨2, (some 12), none, .mov (.t 6), []⟩, ⟨3, (some 13), none, .bin .sub (.t 11) (.t 12), []⟩, ⟨4, (some 7), none, .mov (.t 13), []⟩]) (.seq (.seq (.ops [⟨0, (some 14), none, .mov (.t 7), []⟩, ⟨1, (some 15), none, .bin .lss (.t 14) (.c (.int .i64 0)), []⟩]) (.ite (.t 15) (.seq (.ops [⟨0, (some 16), none, .mov (.t 4), []⟩, ⟨1, (some 17), none, .mov (.t 0), []⟩, ⟨2, (some 4), none, .mov (.t 16), []⟩, ⟨3, (some 5), none, .mov (.t 17), []⟩]) .ret) .skip)) (.seq (.ops [⟨0, (some 18), none, .mov (.t 4), []⟩, ⟨1, (some 19), none, .mov (.t 7), []⟩, ⟨2, (some 20), none, .bin .shl (.c (.int .u64 1)) (.t 19), []⟩, ⟨3, (some 21), none, .bin .or (.t 18) (.t 20), []⟩, ⟨4, (some 4), none, .mov (.t 21), []⟩]) (.ops [⟨0, (some 22), none, .mov (.t 0), []⟩, ⟨1, (some 23), none, .mov (.t 1), []⟩, ⟨2, (some 24), none, .mov (.t 7), []⟩, ⟨3, (some 25), none, .bin .shl (.t 23) (.t 24), []⟩, ⟨4, (some 26), none, .bin .xor (.t 22) (.t 25), []⟩, ⟨5, (some 0), none, .mov (.t 26), []⟩]))))))))
attribute [irreducible] c_ring_divMod
theorem run_ring_divMod {args : List Value} {w : World} {K : Value → World → Prop} (hn : args.length ≤ 27) (h : WP Try.prog c_ring_divMod (endQ [.t 4, .t 5] K) (initT args) w) : CallV Try.prog 99 args w K :=
  call_of follows Try.func99 (by kernel_rfl) (by kernel_rfl) hn h
def c_ring_Degree : C := .seq (.ops [⟨0, (some 2), none, .mov (.c (.int .i64 0)), []⟩]) (.seq (.ops [⟨0, (some 3), none, .mov (.t 0), []⟩, ⟨1, (some 4), none, .call (.c (.func (.func 101) #[] #[])) [.t 3], []⟩, ⟨2, (some 5), none, .bin .sub (.t 4) (.c (.int .i64 1)), []⟩, ⟨3, (some 2), none, .mov (.t 5), []⟩]) .ret)
attribute [irreducible] c_ring_Degree
theorem run_ring_Degree {args : List Value} {w : World} {K : Value → World → Prop} (hn : args.length ≤ 6) (h : WP Try.prog c_ring_Degree (endQ [.t 2] K) (initT args) w) : CallV Try.prog 100 args w K :=
  call_of follows Try.func100 (by kernel_rfl) (by kernel_rfl) hn h
def c_bits_Len64 : C := .seq (.ops [⟨0, (some 2), none, .mov (.c (.int .i64 0)), []⟩]) (.seq (.seq (.ops [⟨0, (some 3), none, .mov (.t 0), []⟩, ⟨1, (some 4), none, .bin .geq (.t 3) (.c (.int .u64 4294967296)), []⟩]) (.ite (.t 4) (.seq (.ops [⟨0, (some 5), none, .mov (.t 0), []⟩, ⟨1, (some 6), none, .bin .shr (.t 5) (.c (.int .u64 32)), []⟩, ⟨2, (some 0), none, .mov (.t 6), []⟩]) (.ops [⟨0, (some 2), none, .mov (.c (.int .i64 32)), []⟩])) .skip)) (.seq (.seq (.ops [⟨0, (some 7), none, .mov (.t 0), []⟩, ⟨1, (some 8), none, .bin .geq (.t 7) (.c (.int .u64 65536)), []⟩]) (.ite (.t 8) (.seq (.ops [⟨0, (some 9), none, .mov (.t 0), []⟩, ⟨1, (some 10), none, .bin .shr (.t 9) (.c (.int .u64 16)), []⟩, ⟨2, (some 0), none, .mov (.t 10), []⟩]) (.ops [⟨0, (some 11), none, .mov (.t 2), []⟩, ⟨1, (some 12), none, .bin .add (.t 11) (.c (.int .i64 16)), []⟩, ⟨2, (some 2), none, .mov (.t 12), []⟩])) .skip)) (.seq (.seq (.ops [⟨0, (some 13), none, .mov (.t 0), []⟩, ⟨1, (some 14), none, .bin .geq (.t 13) (.c (.int .u64 256)), []⟩]) (.ite (.t 14) (.seq (.ops [⟨0, (some 15), none, .mov (.t 0), []⟩, ⟨1, (some 16), none, .bin .shr (.t 15) (.c (.int .u64 8)), []⟩, ⟨2, (some 0), none, .mov (.t 16), []⟩]) (.ops [⟨0, (some 17), none, .mov (.t 2), []⟩, ⟨1, (some 18), none, .bin .add (.t 17) (.c (.int .i64 8)), []⟩, ⟨2, (some 2), none, .mov (.t 18), []⟩])) .skip)) (.seq (.ops [⟨0, (some 19), none, .mov (.t 2), []⟩, ⟨1, (some 20), none, .mov (.t 0), []⟩, ⟨2, (some 21), none, .cnv .u8 (.t 20), []⟩, ⟨3, (some 22), none, .ixt (.c (.string (.mk #[0, 1, 2, 2, 3, 3, 3, 3, 4, 4, 4, 4, 4, 4, 4, 4, 5, 5, 5, 5, 5, 5, 5, 5, 5, 5, 5, 5, 5, 5, 5, 5, 6, 6, 6, 6, 6, 6, 6, 6, 6, 6, 6, 6, 6, 6, 6, 6, 6, 6, 6, 6, 6, 6, 6, 6, 6, 6, 6, 6, 6, 6, 6, 6, 7, 7, 7, 7, 7, 7, 7, 7, 7, 7, 7, 7, 7, 7, 7, 7, 7, 7, 7, 7, 7, 7, 7, 7, 7, 7, 7, 7, 7, 7, 7, 7, 7, 7, 7, 7, 7, 7, 7, 7, 7, 7, 7, 7, 7, 7, 7, 7, 7, 7, 7, 7, 7, 7, 7, 7, 7, 7, 7, 7, 7, 7, 7, 7, 8, 8, 8, 8, 8, 8, 8, 8, 8, 8, 8, 8, 8, 8, 8, 8, 8, 8, 8, 8, 8, 8, 8, 8, 8, 8, 8, 8, 8, 8, 8, 8, 8, 8, 8, 8, 8, 8, 8, 8, 8, 8, 8, 8, 8, 8, 8, 8, 8, 8, 8, 8, 8, 8, 8, 8, 8, 8, 8, 8, 8, 8, 8, 8, 8, 8, 8, 8, 8, 8, 8, 8, 8, 8, 8, 8, 8, 8, 8, 8, 8, 8, 8, 8, 8, 8, 8, 8, 8, 8, 8, 8, 8, 8, 8, 8, 8, 8, 8, 8, 8, 8, 8, 8, 8, 8, 8, 8, 8, 8, 8, 8, 8, 8, 8, 8, 8, 8, 8, 8, 8, 8, 8, 8, 8, 8, 8, 8]))) (.t 21), []⟩, ⟨4, (some 23), none, .cnv .i64 (.t 22), []⟩, ⟨5, (some 24), none, .bin .add (.t 19) (.t 23), []⟩, ⟨6, (some 2), none, .mov (.t 24), []⟩]) .ret))))
attribute [irreducible] c_bits_Len64
theorem run_bits_Len64 {args : List Value} {w : World} {K : Value → World → Prop} (hn : args.length ≤ 25) (h : WP Try.prog c_bits_Len64 (endQ [.t 2] K) (initT args) w) : CallV Try.prog 101 args w K :=
  call_of follows Try.func101 (by kernel_rfl) (by kernel_rfl) hn h
end Go.Proofs.Ytcdagkcchfibjaa.Fw
namespace Go.Proofs.Ytcdagkcchfibjaa.Fw
open Go Go.Fw Go.Proofs Go.RowKit

theorem shr32 (x : Nat) : shrV .u64 (x : Int) 32 = ((x >>> 32 : Nat) : Int) := shr_nat .u64 x 32 (by decide)
theorem shr16 (x : Nat) : shrV .u64 (x : Int) 16 = ((x >>> 16 : Nat) : Int) := shr_nat .u64 x 16 (by decide)
theorem shr8 (x : Nat) : shrV .u64 (x : Int) 8 = ((x >>> 8 : Nat) : Int) := shr_nat .u64 x 8 (by decide)
theorem blen_cut (x k : Nat) (h : 2 ^ k ≤ x) : blen x = k + blen (x >>> k) := by
  have := blen_le h
  rw [blen_shr (by omega)]; omega
theorem cut_lt (x k m : Nat) (h : x < 2 ^ (m + k)) : x >>> k < 2 ^ m := by
  rw [Nat.shiftRight_eq_div_pow, Nat.div_lt_iff_lt_mul (Nat.two_pow_pos k), ← Nat.pow_add]; exact h
theorem len_tab (i : Nat) (h : i < 256) : ((#[0, 1, 2, 2, 3, 3, 3, 3, 4, 4, 4, 4, 4, 4, 4, 4, 5, 5, 5, 5, 5, 5, 5, 5, 5, 5, 5, 5, 5, 5, 5, 5, 6, 6, 6, 6, 6, 6, 6, 6, 6, 6, 6, 6, 6, 6, 6, 6, 6, 6, 6, 6, 6, 6, 6, 6, 6, 6, 6, 6, 6, 6, 6, 6, 7, 7, 7, 7, 7, 7, 7, 7, 7, 7, 7, 7, 7, 7, 7, 7, 7, 7, 7, 7, 7, 7, 7, 7, 7, 7, 7, 7, 7, 7, 7, 7, 7, 7, 7, 7, 7, 7, 7, 7, 7, 7, 7, 7, 7, 7, 7, 7, 7, 7, 7, 7, 7, 7, 7, 7, 7, 7, 7, 7, 7, 7, 7, 7, 8, 8, 8, 8, 8, 8, 8, 8, 8, 8, 8, 8, 8, 8, 8, 8, 8, 8, 8, 8, 8, 8, 8, 8, 8, 8, 8, 8, 8, 8, 8, 8, 8, 8, 8, 8, 8, 8, 8, 8, 8, 8, 8, 8, 8, 8, 8, 8, 8, 8, 8, 8, 8, 8, 8, 8, 8, 8, 8, 8, 8, 8, 8, 8, 8, 8, 8, 8, 8, 8, 8, 8, 8, 8, 8, 8, 8, 8, 8, 8, 8, 8, 8, 8, 8, 8, 8, 8, 8, 8, 8, 8, 8, 8, 8, 8, 8, 8, 8, 8, 8, 8, 8, 8, 8, 8, 8, 8, 8, 8, 8, 8, 8, 8, 8, 8, 8, 8, 8, 8, 8, 8, 8, 8, 8, 8, 8, 8] : Array UInt8).getD i 0).toNat = blen i := by
  have key : ∀ i, i < 256 → ((#[0, 1, 2, 2, 3, 3, 3, 3, 4, 4, 4, 4, 4, 4, 4, 4, 5, 5, 5, 5, 5, 5, 5, 5, 5, 5, 5, 5, 5, 5, 5, 5, 6, 6, 6, 6, 6, 6, 6, 6, 6, 6, 6, 6, 6, 6, 6, 6, 6, 6, 6, 6, 6, 6, 6, 6, 6, 6, 6, 6, 6, 6, 6, 6, 7, 7, 7, 7, 7, 7, 7, 7, 7, 7, 7, 7, 7, 7, 7, 7, 7, 7, 7, 7, 7, 7, 7, 7, 7, 7, 7, 7, 7, 7, 7, 7, 7, 7, 7, 7, 7, 7, 7, 7, 7, 7, 7, 7, 7, 7, 7, 7, 7, 7, 7, 7, 7, 7, 7, 7, 7, 7, 7, 7, 7, 7, 7, 7, 8, 8, 8, 8, 8, 8, 8, 8, 8, 8, 8, 8, 8, 8, 8, 8, 8, 8, 8, 8, 8, 8, 8, 8, 8, 8, 8, 8, 8, 8, 8, 8, 8, 8, 8, 8, 8, 8, 8, 8, 8, 8, 8, 8, 8, 8, 8, 8, 8, 8, 8, 8, 8, 8, 8, 8, 8, 8, 8, 8, 8, 8, 8, 8, 8, 8, 8, 8, 8, 8, 8, 8, 8, 8, 8, 8, 8, 8, 8, 8, 8, 8, 8, 8, 8, 8, 8, 8, 8, 8, 8, 8, 8, 8, 8, 8, 8, 8, 8, 8, 8, 8, 8, 8, 8, 8, 8, 8, 8, 8, 8, 8, 8, 8, 8, 8, 8, 8, 8, 8, 8, 8, 8, 8, 8, 8, 8, 8] : Array UInt8).getD i 0).toNat = blen i := by decide +kernel
  exact key i h
theorem bits_Len64_spec (w : World) (x : Nat) (hx : x < 18446744073709551616) : CallV Try.prog 101 [.int .u64 (x : Int)] w fun v w' => v = .int .i64 (blen x : Int) ∧ w' = w := by
  have fin : ∀ (y n : Nat), y < 256 → n ≤ 56 → blen x = n + blen y → ∀ (i : Nat), i = blen y → IntKind.i64.wrap ((n : Int) + IntKind.i64.wrap (i : Int)) = (blen x : Int) := by
    intro y n hy hn he i hi
    have : blen y ≤ 8 := blen_lt (by simpa using hy)
    rw [wrap_64 i (by omega), show (n : Int) + (i : Int) = ((n + i : Nat) : Int) by omega, wrap_64 _ (by omega), he, hi]
  refine run_bits_Len64 (by simp) ?_
  by_cases h1 : 4294967296 ≤ x
  · have d1 : decide ((4294967296 : Int) ≤ ((x : Nat) : Int)) = true := decide_eq_true (by omega)
    have e1 := blen_cut x 32 (by simpa using h1)
    have l1 : (x >>> 32) < 4294967296 := cut_lt x 32 32 (by simp; omega)
    by_cases h2 : 65536 ≤ (x >>> 32)
    · have d2 : decide ((65536 : Int) ≤ (((x >>> 32) : Nat) : Int)) = true := decide_eq_true (by omega)
      have e2 := blen_cut (x >>> 32) 16 (by simpa using h2)
      have l2 : ((x >>> 32) >>> 16) < 65536 := cut_lt (x >>> 32) 16 16 (by simp; omega)
      by_cases h3 : 256 ≤ ((x >>> 32) >>> 16)
      · have d3 : decide ((256 : Int) ≤ ((((x >>> 32) >>> 16) : Nat) : Int)) = true := decide_eq_true (by omega)
        have e3 := blen_cut ((x >>> 32) >>> 16) 8 (by simpa using h3)
        have l3 : (((x >>> 32) >>> 16) >>> 8) < 256 := cut_lt ((x >>> 32) >>> 16) 8 8 (by simp; omega)
        have l4 : (((x >>> 32) >>> 16) >>> 8) < 256 := by omega
        simp only [c_bits_Len64, WS, List.getElem_cons_zero, List.getElem_cons_succ, Option.isNone_some, Option.isNone_none, List.getD_cons_zero, List.getD_cons_succ, I.at, atL, atO, atP, evp, evs, retV, ↓reduceIte, Nat.reduceEqDiff, reduceCtorEq, X_shr, Int.reduceLE, shr32, shr16, shr8, d1, d2, d3, wrap_u8 _ l4, Int.zero_add]
        rw [X_ixt (by exact l4)]
        simp only [WS, List.getElem_cons_zero, List.getElem_cons_succ, Option.isNone_some, Option.isNone_none, List.getD_cons_zero, List.getD_cons_succ, I.at, atL, atO, atP, evp, evs, retV, ↓reduceIte, Nat.reduceEqDiff, reduceCtorEq]
        try simp only [show IntKind.i64.wrap (32 + 16) = 48 from rfl, show IntKind.i64.wrap (32 + 8) = 40 from rfl, show IntKind.i64.wrap (48 + 8) = 56 from rfl, show IntKind.i64.wrap (0 + 16) = 16 from rfl, show IntKind.i64.wrap (0 + 8) = 8 from rfl, show IntKind.i64.wrap (16 + 8) = 24 from rfl, show IntKind.i64.wrap 16 = 16 from rfl, show IntKind.i64.wrap 8 = 8 from rfl]
        exact congrArg (Value.int IntKind.i64) (fin _ 56 l4 (by omega) (by omega) _ (len_tab _ l4))
      · have d3 : decide ((256 : Int) ≤ ((((x >>> 32) >>> 16) : Nat) : Int)) = false := decide_eq_false (by omega)
        have l4 : ((x >>> 32) >>> 16) < 256 := by omega
        simp only [c_bits_Len64, WS, List.getElem_cons_zero, List.getElem_cons_succ, Option.isNone_some, Option.isNone_none, List.getD_cons_zero, List.getD_cons_succ, I.at, atL, atO, atP, evp, evs, retV, ↓reduceIte, Nat.reduceEqDiff, reduceCtorEq, X_shr, Int.reduceLE, shr32, shr16, shr8, d1, d2, d3, wrap_u8 _ l4, Int.zero_add]
        rw [X_ixt (by exact l4)]
        simp only [WS, List.getElem_cons_zero, List.getElem_cons_succ, Option.isNone_some, Option.isNone_none, List.getD_cons_zero, List.getD_cons_succ, I.at, atL, atO, atP, evp, evs, retV, ↓reduceIte, Nat.reduceEqDiff, reduceCtorEq]
        try simp only [show IntKind.i64.wrap (32 + 16) = 48 from rfl, show IntKind.i64.wrap (32 + 8) = 40 from rfl, show IntKind.i64.wrap (48 + 8) = 56 from rfl, show IntKind.i64.wrap (0 + 16) = 16 from rfl, show IntKind.i64.wrap (0 + 8) = 8 from rfl, show IntKind.i64.wrap (16 + 8) = 24 from rfl, show IntKind.i64.wrap 16 = 16 from rfl, show IntKind.i64.wrap 8 = 8 from rfl]
        exact congrArg (Value.int IntKind.i64) (fin _ 48 l4 (by omega) (by omega) _ (len_tab _ l4))
    · have d2 : decide ((65536 : Int) ≤ (((x >>> 32) : Nat) : Int)) = false := decide_eq_false (by omega)
      by_cases h3 : 256 ≤ (x >>> 32)
      · have d3 : decide ((256 : Int) ≤ (((x >>> 32) : Nat) : Int)) = true := decide_eq_true (by omega)
        have e3 := blen_cut (x >>> 32) 8 (by simpa using h3)
        have l3 : ((x >>> 32) >>> 8) < 256 := cut_lt (x >>> 32) 8 8 (by simp; omega)
        have l4 : ((x >>> 32) >>> 8) < 256 := by omega
        simp only [c_bits_Len64, WS, List.getElem_cons_zero, List.getElem_cons_succ, Option.isNone_some, Option.isNone_none, List.getD_cons_zero, List.getD_cons_succ, I.at, atL, atO, atP, evp, evs, retV, ↓reduceIte, Nat.reduceEqDiff, reduceCtorEq, X_shr, Int.reduceLE, shr32, shr16, shr8, d1, d2, d3, wrap_u8 _ l4, Int.zero_add]
        rw [X_ixt (by exact l4)]
        simp only [WS, List.getElem_cons_zero, List.getElem_cons_succ, Option.isNone_some, Option.isNone_none, List.getD_cons_zero, List.getD_cons_succ, I.at, atL, atO, atP, evp, evs, retV, ↓reduceIte, Nat.reduceEqDiff, reduceCtorEq]
        try simp only [show IntKind.i64.wrap (32 + 16) = 48 from rfl, show IntKind.i64.wrap (32 + 8) = 40 from rfl, show IntKind.i64.wrap (48 + 8) = 56 from rfl, show IntKind.i64.wrap (0 + 16) = 16 from rfl, show IntKind.i64.wrap (0 + 8) = 8 from rfl, show IntKind.i64.wrap (16 + 8) = 24 from rfl, show IntKind.i64.wrap 16 = 16 from rfl, show IntKind.i64.wrap 8 = 8 from rfl]
        exact congrArg (Value.int IntKind.i64) (fin _ 40 l4 (by omega) (by omega) _ (len_tab _ l4))
      · have d3 : decide ((256 : Int) ≤ (((x >>> 32) : Nat) : Int)) = false := decide_eq_false (by omega)
        have l4 : (x >>> 32) < 256 := by omega
        simp only [c_bits_Len64, WS, List.getElem_cons_zero, List.getElem_cons_succ, Option.isNone_some, Option.isNone_none, List.getD_cons_zero, List.getD_cons_succ, I.at, atL, atO, atP, evp, evs, retV, ↓reduceIte, Nat.reduceEqDiff, reduceCtorEq, X_shr, Int.reduceLE, shr32, shr16, shr8, d1, d2, d3, wrap_u8 _ l4, Int.zero_add]
        rw [X_ixt (by exact l4)]
        simp only [WS, List.getElem_cons_zero, List.getElem_cons_succ, Option.isNone_some, Option.isNone_none, List.getD_cons_zero, List.getD_cons_succ, I.at, atL, atO, atP, evp, evs, retV, ↓reduceIte, Nat.reduceEqDiff, reduceCtorEq]
        try simp only [show IntKind.i64.wrap (32 + 16) = 48 from rfl, show IntKind.i64.wrap (32 + 8) = 40 from rfl, show IntKind.i64.wrap (48 + 8) = 56 from rfl, show IntKind.i64.wrap (0 + 16) = 16 from rfl, show IntKind.i64.wrap (0 + 8) = 8 from rfl, show IntKind.i64.wrap (16 + 8) = 24 from rfl, show IntKind.i64.wrap 16 = 16 from rfl, show IntKind.i64.wrap 8 = 8 from rfl]
        exact congrArg (Value.int IntKind.i64) (fin _ 32 l4 (by omega) (by omega) _ (len_tab _ l4))
  · have d1 : decide ((4294967296 : Int) ≤ ((x : Nat) : Int)) = false := decide_eq_false (by omega)
    by_cases h2 : 65536 ≤ x
    · have d2 : decide ((65536 : Int) ≤ ((x : Nat) : Int)) = true := decide_eq_true (by omega)
      have e2 := blen_cut x 16 (by simpa using h2)
      have l2 : (x >>> 16) < 65536 := cut_lt x 16 16 (by simp; omega)
      by_cases h3 : 256 ≤ (x >>> 16)
      · have d3 : decide ((256 : Int) ≤ (((x >>> 16) : Nat) : Int)) = true := decide_eq_true (by omega)
        have e3 := blen_cut (x >>> 16) 8 (by simpa using h3)
        have l3 : ((x >>> 16) >>> 8) < 256 := cut_lt (x >>> 16) 8 8 (by simp; omega)
        have l4 : ((x >>> 16) >>> 8) < 256 := by omega
        simp only [c_bits_Len64, WS, List.getElem_cons_zero, List.getElem_cons_succ, Option.isNone_some, Option.isNone_none, List.getD_cons_zero, List.getD_cons_succ, I.at, atL, atO, atP, evp, evs, retV, ↓reduceIte, Nat.reduceEqDiff, reduceCtorEq, X_shr, Int.reduceLE, shr32, shr16, shr8, d1, d2, d3, wrap_u8 _ l4, Int.zero_add]
        rw [X_ixt (by exact l4)]
        simp only [WS, List.getElem_cons_zero, List.getElem_cons_succ, Option.isNone_some, Option.isNone_none, List.getD_cons_zero, List.getD_cons_succ, I.at, atL, atO, atP, evp, evs, retV, ↓reduceIte, Nat.reduceEqDiff, reduceCtorEq]
        try simp only [show IntKind.i64.wrap (32 + 16) = 48 from rfl, show IntKind.i64.wrap (32 + 8) = 40 from rfl, show IntKind.i64.wrap (48 + 8) = 56 from rfl, show IntKind.i64.wrap (0 + 16) = 16 from rfl, show IntKind.i64.wrap (0 + 8) = 8 from rfl, show IntKind.i64.wrap (16 + 8) = 24 from rfl, show IntKind.i64.wrap 16 = 16 from rfl, show IntKind.i64.wrap 8 = 8 from rfl]
        exact congrArg (Value.int IntKind.i64) (fin _ 24 l4 (by omega) (by omega) _ (len_tab _ l4))
      · have d3 : decide ((256 : Int) ≤ (((x >>> 16) : Nat) : Int)) = false := decide_eq_false (by omega)
        have l4 : (x >>> 16) < 256 := by omega
        simp only [c_bits_Len64, WS, List.getElem_cons_zero, List.getElem_cons_succ, Option.isNone_some, Option.isNone_none, List.getD_cons_zero, List.getD_cons_succ, I.at, atL, atO, atP, evp, evs, retV, ↓reduceIte, Nat.reduceEqDiff, reduceCtorEq, X_shr, Int.reduceLE, shr32, shr16, shr8, d1, d2, d3, wrap_u8 _ l4, Int.zero_add]
        rw [X_ixt (by exact l4)]
        simp only [WS, List.getElem_cons_zero, List.getElem_cons_succ, Option.isNone_some, Option.isNone_none, List.getD_cons_zero, List.getD_cons_succ, I.at, atL, atO, atP, evp, evs, retV, ↓reduceIte, Nat.reduceEqDiff, reduceCtorEq]
        try simp only [show IntKind.i64.wrap (32 + 16) = 48 from rfl, show IntKind.i64.wrap (32 + 8) = 40 from rfl, show IntKind.i64.wrap (48 + 8) = 56 from rfl, show IntKind.i64.wrap (0 + 16) = 16 from rfl, show IntKind.i64.wrap (0 + 8) = 8 from rfl, show IntKind.i64.wrap (16 + 8) = 24 from rfl, show IntKind.i64.wrap 16 = 16 from rfl, show IntKind.i64.wrap 8 = 8 from rfl]
        exact congrArg (Value.int IntKind.i64) (fin _ 16 l4 (by omega) (by omega) _ (len_tab _ l4))
    · have d2 : decide ((65536 : Int) ≤ ((x : Nat) : Int)) = false := decide_eq_false (by omega)
      by_cases h3 : 256 ≤ x
      · have d3 : decide ((256 : Int) ≤ ((x : Nat) : Int)) = true := decide_eq_true (by omega)
        have e3 := blen_cut x 8 (by simpa using h3)
        have l3 : (x >>> 8) < 256 := cut_lt x 8 8 (by simp; omega)
        have l4 : (x >>> 8) < 256 := by omega
        simp only [c_bits_Len64, WS, List.getElem_cons_zero, List.getElem_cons_succ, Option.isNone_some, Option.isNone_none, List.getD_cons_zero, List.getD_cons_succ, I.at, atL, atO, atP, evp, evs, retV, ↓reduceIte, Nat.reduceEqDiff, reduceCtorEq, X_shr, Int.reduceLE, shr32, shr16, shr8, d1, d2, d3, wrap_u8 _ l4, Int.zero_add]
        rw [X_ixt (by exact l4)]
        simp only [WS, List.getElem_cons_zero, List.getElem_cons_succ, Option.isNone_some, Option.isNone_none, List.getD_cons_zero, List.getD_cons_succ, I.at, atL, atO, atP, evp, evs, retV, ↓reduceIte, Nat.reduceEqDiff, reduceCtorEq]
        try simp only [show IntKind.i64.wrap (32 + 16) = 48 from rfl, show IntKind.i64.wrap (32 + 8) = 40 from rfl, show IntKind.i64.wrap (48 + 8) = 56 from rfl, show IntKind.i64.wrap (0 + 16) = 16 from rfl, show IntKind.i64.wrap (0 + 8) = 8 from rfl, show IntKind.i64.wrap (16 + 8) = 24 from rfl, show IntKind.i64.wrap 16 = 16 from rfl, show IntKind.i64.wrap 8 = 8 from rfl]
        exact congrArg (Value.int IntKind.i64) (fin _ 8 l4 (by omega) (by omega) _ (len_tab _ l4))
      · have d3 : decide ((256 : Int) ≤ ((x : Nat) : Int)) = false := decide_eq_false (by omega)
        have l4 : x < 256 := by omega
        simp only [c_bits_Len64, WS, List.getElem_cons_zero, List.getElem_cons_succ, Option.isNone_some, Option.isNone_none, List.getD_cons_zero, List.getD_cons_succ, I.at, atL, atO, atP, evp, evs, retV, ↓reduceIte, Nat.reduceEqDiff, reduceCtorEq, X_shr, Int.reduceLE, shr32, shr16, shr8, d1, d2, d3, wrap_u8 _ l4, Int.zero_add]
        rw [X_ixt (by exact l4)]
        simp only [WS, List.getElem_cons_zero, List.getElem_cons_succ, Option.isNone_some, Option.isNone_none, List.getD_cons_zero, List.getD_cons_succ, I.at, atL, atO, atP, evp, evs, retV, ↓reduceIte, Nat.reduceEqDiff, reduceCtorEq]
        try simp only [show IntKind.i64.wrap (32 + 16) = 48 from rfl, show IntKind.i64.wrap (32 + 8) = 40 from rfl, show IntKind.i64.wrap (48 + 8) = 56 from rfl, show IntKind.i64.wrap (0 + 16) = 16 from rfl, show IntKind.i64.wrap (0 + 8) = 8 from rfl, show IntKind.i64.wrap (16 + 8) = 24 from rfl, show IntKind.i64.wrap 16 = 16 from rfl, show IntKind.i64.wrap 8 = 8 from rfl]
        exact congrArg (Value.int IntKind.i64) (fin _ 0 l4 (by omega) (by omega) _ (len_tab _ l4))
theorem ring_Degree_spec (w : World) (x : Nat) (hx : x < 18446744073709551616) : CallV Try.prog 100 [.int .u64 (x : Int)] w fun v w' => v = .int .i64 ((blen x : Int) - 1) ∧ w' = w := by
  have hb := blen_lt (m := 64) (n := x) (by simpa using hx)
  refine run_ring_Degree (by simp) ?_
  simp only [c_ring_Degree, WS, List.getElem_cons_zero, List.getElem_cons_succ, Option.isNone_some, Option.isNone_none, List.getD_cons_zero, List.getD_cons_succ, I.at, atL, atO, atP, evp, evs, retV, ↓reduceIte, Nat.reduceEqDiff, reduceCtorEq]
  refine X_call0 ((bits_Len64_spec w x hx).mono ?_)
  rintro v w' ⟨rfl, rfl⟩
  simp only [WS, List.getElem_cons_zero, List.getElem_cons_succ, Option.isNone_some, Option.isNone_none, List.getD_cons_zero, List.getD_cons_succ, I.at, atL, atO, atP, evp, evs, retV, ↓reduceIte, Nat.reduceEqDiff, reduceCtorEq]
  rw [wrap_id (by omega) (by omega)]
theorem ring_isModulus_spec (w : World) (x m : Nat) (hx : x < 18446744073709551616) (hm : m < 100) : CallV Try.prog 97 [.int .u64 (x : Int), .int .i64 (m : Int)] w fun v w' => v = .bool (decide (2 ≤ blen x ∧ blen x ≤ m + 1)) ∧ w' = w := by
  refine run_ring_isModulus (by simp) ?_
  simp only [c_ring_isModulus, WS, List.getElem_cons_zero, List.getElem_cons_succ, Option.isNone_some, Option.isNone_none, List.getD_cons_zero, List.getD_cons_succ, I.at, atL, atO, atP, evp, evs, retV, ↓reduceIte, Nat.reduceEqDiff, reduceCtorEq]
  refine X_call0 ((ring_Degree_spec w x hx).mono ?_)
  rintro v w' ⟨rfl, rfl⟩
  by_cases h1 : 2 ≤ blen x
  · have d1 : decide ((1 : Int) ≤ (blen x : Int) - 1) = true := decide_eq_true (by omega)
    have d2 : decide ((blen x : Int) - 1 ≤ (m : Int)) = decide (blen x ≤ m + 1) := decide_eq_decide.2 (by omega)
    simp only [WS, List.getElem_cons_zero, List.getElem_cons_succ, Option.isNone_some, Option.isNone_none, List.getD_cons_zero, List.getD_cons_succ, I.at, atL, atO, atP, evp, evs, retV, ↓reduceIte, Nat.reduceEqDiff, reduceCtorEq, d1, d2, h1]
  · have d1 : decide ((1 : Int) ≤ (blen x : Int) - 1) = false := decide_eq_false (by omega)
    simp only [WS, List.getElem_cons_zero, List.getElem_cons_succ, Option.isNone_some, Option.isNone_none, List.getD_cons_zero, List.getD_cons_succ, I.at, atL, atO, atP, evp, evs, retV, ↓reduceIte, Nat.reduceEqDiff, reduceCtorEq, d1, h1, false_and]
/-- Division of polynomials over GF(2): nothing to do where the degree is smaller. -/
theorem ring_divMod_small (w : World) (x p : Nat) (hx : x < 18446744073709551616) (hp : p < 18446744073709551616) (h : blen x < blen p) : CallV Try.prog 99 [.int .u64 (x : Int), .int .u64 (p : Int)] w fun v w' => v = .tuple #[.int .u64 0, .int .u64 (x : Int)] ∧ w' = w := by
  have hb := blen_lt (m := 64) (n := x) (by simpa using hx)
  have hbp := blen_lt (m := 64) (n := p) (by simpa using hp)
  refine run_ring_divMod (by simp) ?_
  simp only [c_ring_divMod, WS, List.getElem_cons_zero, List.getElem_cons_succ, Option.isNone_some, Option.isNone_none, List.getD_cons_zero, List.getD_cons_succ, I.at, atL, atO, atP, evp, evs, retV, ↓reduceIte, Nat.reduceEqDiff, reduceCtorEq]
  refine X_call0 ((ring_Degree_spec w p hp).mono ?_)
  rintro v w' ⟨rfl, rfl⟩
  simp only [WS, List.getElem_cons_zero, List.getElem_cons_succ, Option.isNone_some, Option.isNone_none, List.getD_cons_zero, List.getD_cons_succ, I.at, atL, atO, atP, evp, evs, retV, ↓reduceIte, Nat.reduceEqDiff, reduceCtorEq]
  refine loop_of (fun t w => w = w' ∧ t 0 = .int .u64 (x : Int) ∧ t 1 = .int .u64 (p : Int) ∧ t 4 = .int .u64 0 ∧ t 6 = .int .i64 ((blen p : Int) - 1)) (fun _ _ => 0) ⟨rfl, rfl, rfl, rfl, rfl⟩ ?_
  rintro t w ⟨rfl, h0, h1, h4, h6⟩
  simp only [WS, List.getElem_cons_zero, List.getElem_cons_succ, Option.isNone_some, Option.isNone_none, List.getD_cons_zero, List.getD_cons_succ, I.at, atL, atO, atP, evp, evs, retV, ↓reduceIte, Nat.reduceEqDiff, reduceCtorEq, h0, h1, h4, h6]
  refine X_call0 ((ring_Degree_spec w x hx).mono ?_)
  rintro v w' ⟨rfl, rfl⟩
  have e : IntKind.i64.wrap ((blen x : Int) - 1 - ((blen p : Int) - 1)) = (blen x : Int) - (blen p : Int) := by rw [wrap_id (by omega) (by omega)]; omega
  have d1 : decide ((blen x : Int) - (blen p : Int) < 0) = true := decide_eq_true (by omega)
  simp only [WS, List.getElem_cons_zero, List.getElem_cons_succ, Option.isNone_some, Option.isNone_none, List.getD_cons_zero, List.getD_cons_succ, I.at, atL, atO, atP, evp, evs, retV, ↓reduceIte, Nat.reduceEqDiff, reduceCtorEq, h0, h1, h4, h6, e, d1]
theorem and1_u64 (a m : Nat) (ha : a < 2 ^ 64) (hm : m ≤ 64) : bitsOp .and .u64 (shrV .u64 (a : Int) (m : Int)) 1 = if a.testBit m then 1 else 0 := by
  rw [shr_nat .u64 a m hm]
  have h1 : a >>> m ≤ a := by rw [Nat.shiftRight_eq_div_pow]; exact Nat.div_le_self _ _
  have := bits_and fits_u64 (a := a >>> m) (b := 1) (by omega) (by decide)
  rw [and_one_shr] at this
  rw [show (1 : Int) = ((1 : Nat) : Int) from rfl, this]
  split <;> rfl
theorem mx16_bit (s : BitVec 16) : (s.toNat <<< 1).testBit 16 = s.msb := by
  rw [Nat.testBit_shiftLeft]
  simp [BitVec.msb_eq_getLsbD_last, BitVec.getLsbD]
theorem mx16_val (s : BitVec 16) : (if s.msb then (s.toNat <<< 1) ^^^ 65581 else s.toNat <<< 1) = (mx r16 s).toNat := by
  have hs := s.isLt
  unfold mx
  have hm : s.msb = decide (32768 ≤ s.toNat) := by rw [BitVec.msb_eq_decide]
  have e0 : s.toNat <<< 1 = 2 * s.toNat := by rw [Nat.shiftLeft_eq]; omega
  rw [e0]
  by_cases h : 32768 ≤ s.toNat
  · rw [hm, decide_eq_true h, if_pos rfl, if_pos rfl, BitVec.toNat_xor, BitVec.toNat_shiftLeft, e0]
    have e1 : (2 * s.toNat ^^^ 65581) / 2 ^ 16 = 0 := by
      rw [← Nat.shiftRight_eq_div_pow, Nat.shiftRight_xor_distrib, Nat.shiftRight_eq_div_pow, Nat.shiftRight_eq_div_pow, show 2 * s.toNat / 2 ^ 16 = 1 by omega]; rfl
    have e2 : (2 * s.toNat ^^^ 65581) % 2 ^ 16 = (2 * s.toNat % 2 ^ 16) ^^^ 45 := by rw [Nat.xor_mod_two_pow]
    have e3 : r16.toNat = 45 := rfl
    rw [e3, ← e2]
    omega
  · rw [hm, decide_eq_false h]
    simp only [Bool.false_eq_true, if_false]
    rw [BitVec.toNat_shiftLeft, e0]
    omega
theorem ring_mulMod_spec (w : World) (a b : El 16) : CallV Try.prog 98 [.int .u64 (a.v.toNat : Int), .int .u64 (b.v.toNat : Int), .int .u64 65581] w fun v w' => v = .int .u64 ((a * b).v.toNat : Int) ∧ w' = w := by
  have ha := a.v.isLt
  have hb := b.v.isLt
  have hp : blen 65581 = 17 := by decide +kernel
  have hs : ∀ x : El 16, blen x.v.toNat < blen 65581 := fun x => by have := blen_lt x.v.isLt; omega
  refine run_ring_mulMod (by simp) ?_
  simp only [c_ring_mulMod, WS, List.getElem_cons_zero, List.getElem_cons_succ, Option.isNone_some, Option.isNone_none, List.getD_cons_zero, List.getD_cons_succ, I.at, atL, atO, atP, evp, evs, retV, ↓reduceIte, Nat.reduceEqDiff, reduceCtorEq]
  refine X_call0 ((ring_divMod_small w a.v.toNat 65581 (by omega) (by decide) (hs a)).mono ?_)
  rintro v w' ⟨rfl, rfl⟩
  simp only [WS, List.getElem_cons_zero, List.getElem_cons_succ, Option.isNone_some, Option.isNone_none, List.getD_cons_zero, List.getD_cons_succ, I.at, atL, atO, atP, evp, evs, retV, ↓reduceIte, Nat.reduceEqDiff, reduceCtorEq]
  refine X_call0 ((ring_divMod_small w' b.v.toNat 65581 (by omega) (by decide) (hs b)).mono ?_)
  rintro v w ⟨rfl, rfl⟩
  simp only [WS, List.getElem_cons_zero, List.getElem_cons_succ, Option.isNone_some, Option.isNone_none, List.getD_cons_zero, List.getD_cons_succ, I.at, atL, atO, atP, evp, evs, retV, ↓reduceIte, Nat.reduceEqDiff, reduceCtorEq]
  refine X_call0 ((ring_Degree_spec w 65581 (by decide)).mono ?_)
  rintro v w' ⟨rfl, rfl⟩
  rw [hp]
  simp only [WS, List.getElem_cons_zero, List.getElem_cons_succ, Option.isNone_some, Option.isNone_none, List.getD_cons_zero, List.getD_cons_succ, I.at, atL, atO, atP, evp, evs, retV, ↓reduceIte, Nat.reduceEqDiff, reduceCtorEq]
  refine loop_of (fun t w => w = w' ∧ t 0 = .int .u64 (a.v.toNat : Int) ∧ t 1 = .int .u64 (b.v.toNat : Int) ∧ t 2 = .int .u64 65581 ∧ t 7 = .int .i64 16 ∧ ∃ (m : Nat) (s : BitVec 16), m ≤ 16 ∧ t 8 = .int .u64 (s.toNat : Int) ∧ t 9 = .int .i64 ((m : Int) - 1) ∧ horner r16 a.v b.v m s = (a * b).v) (fun t _ => (toI (t 9) + 1).toNat) ⟨rfl, rfl, rfl, rfl, rfl, 16, 0, by omega, rfl, rfl, horner_mul r16 a.v b.v⟩ ?_
  rintro t w ⟨rfl, h0, h1, h2, h7, m, s, hm, h8, h9, hh⟩
  rcases Nat.eq_zero_or_pos m with rfl | hpos
  · have d1 : decide ((0 : Int) ≤ ((0 : Nat) : Int) - 1) = false := by decide
    simp only [WS, List.getElem_cons_zero, List.getElem_cons_succ, Option.isNone_some, Option.isNone_none, List.getD_cons_zero, List.getD_cons_succ, I.at, atL, atO, atP, evp, evs, retV, ↓reduceIte, Nat.reduceEqDiff, reduceCtorEq, h8, h9, d1]
    rw [← hh]; rfl
  · obtain ⟨m, rfl⟩ : ∃ k, m = k + 1 := ⟨m - 1, by omega⟩
    have e1 : ((m + 1 : Nat) : Int) - 1 = (m : Int) := by omega
    rw [e1] at h9
    have hs := s.isLt
    have d1 : decide ((0 : Int) ≤ (m : Int)) = true := by simp
    have s1 : shlV .u64 (s.toNat : Int) 1 = ((s.toNat <<< 1 : Nat) : Int) := shl_nat fits_u64 s.toNat 1 (by decide) (by omega)
    have e2 : s.toNat <<< 1 = 2 * s.toNat := by rw [Nat.shiftLeft_eq]; omega
    have t1 : bitsOp .and .u64 (shrV .u64 ((s.toNat <<< 1 : Nat) : Int) 16) 1 = if (s.toNat <<< 1).testBit 16 then 1 else 0 := and1_u64 (s.toNat <<< 1) 16 (by omega) (by decide)
    rw [mx16_bit] at t1
    have t2 := and1_u64 b.v.toNat m (by omega) (by omega)
    have hbit : b.v.toNat.testBit m = b.v.getLsbD m := BitVec.testBit_toNat b.v
    rw [hbit] at t2
    have x1 : bitsOp .xor .u64 ((s.toNat <<< 1 : Nat) : Int) 65581 = (((s.toNat <<< 1) ^^^ 65581 : Nat) : Int) := bits_xor fits_u64 (by omega) (by decide)
    have v1 := mx16_val s
    have x2 : ∀ y : BitVec 16, bitsOp .xor .u64 (y.toNat : Int) (a.v.toNat : Int) = ((y ^^^ a.v).toNat : Int) := fun y => by
      have := y.isLt
      rw [bits_xor fits_u64 (by omega) (by omega), BitVec.toNat_xor]
    simp only [horner] at hh
    have w1 : IntKind.i64.wrap ((m : Int) - 1) = (m : Int) - 1 := wrap_id (by omega) (by omega)
    have m1 : (((m : Int) - 1) + 1).toNat < ((m : Int) + 1).toNat := by omega
    cases hmsb : s.msb <;> cases hbm : b.v.getLsbD m <;> simp only [hmsb, hbm, if_true, if_false, Bool.false_eq_true] at t1 t2 v1 hh
    · simp only [WS, List.getElem_cons_zero, List.getElem_cons_succ, Option.isNone_some, Option.isNone_none, List.getD_cons_zero, List.getD_cons_succ, I.at, atL, atO, atP, evp, evs, retV, ↓reduceIte, Nat.reduceEqDiff, reduceCtorEq, X_shl, X_shr, Int.reduceLE, Int.natCast_nonneg, h0, h1, h2, h7, h8, h9, d1, s1, t1, t2, Int.reduceEq, w1, toI_int]
      refine ⟨⟨m, mx r16 s, by omega, by rw [← v1], rfl, ?_⟩, m1⟩
      rw [← hh]; simp [sel]
    · rw [v1] at t1
      simp only [WS, List.getElem_cons_zero, List.getElem_cons_succ, Option.isNone_some, Option.isNone_none, List.getD_cons_zero, List.getD_cons_succ, I.at, atL, atO, atP, evp, evs, retV, ↓reduceIte, Nat.reduceEqDiff, reduceCtorEq, X_shl, X_shr, Int.reduceLE, Int.natCast_nonneg, h0, h1, h2, h7, h8, h9, d1, s1, t1, t2, Int.reduceEq, v1, x2, w1, toI_int]
      exact ⟨⟨m, mx r16 s ^^^ a.v, by omega, rfl, rfl, by rw [← hh]; simp [sel]⟩, m1⟩
    · simp only [WS, List.getElem_cons_zero, List.getElem_cons_succ, Option.isNone_some, Option.isNone_none, List.getD_cons_zero, List.getD_cons_succ, I.at, atL, atO, atP, evp, evs, retV, ↓reduceIte, Nat.reduceEqDiff, reduceCtorEq, X_shl, X_shr, Int.reduceLE, Int.natCast_nonneg, h0, h1, h2, h7, h8, h9, d1, s1, t1, t2, Int.reduceEq, x1, v1, w1, toI_int]
      exact ⟨⟨m, mx r16 s, by omega, rfl, rfl, by rw [← hh]; simp [sel]⟩, m1⟩
    · simp only [WS, List.getElem_cons_zero, List.getElem_cons_succ, Option.isNone_some, Option.isNone_none, List.getD_cons_zero, List.getD_cons_succ, I.at, atL, atO, atP, evp, evs, retV, ↓reduceIte, Nat.reduceEqDiff, reduceCtorEq, X_shl, X_shr, Int.reduceLE, Int.natCast_nonneg, h0, h1, h2, h7, h8, h9, d1, s1, t1, t2, Int.reduceEq, x1, v1, x2, w1, toI_int]
      exact ⟨⟨m, mx r16 s ^^^ a.v, by omega, rfl, rfl, by rw [← hh]; simp [sel]⟩, m1⟩
theorem ring_MulMod_spec (w : World) (a b : El 16) : CallV Try.prog 95 [.int .u64 (a.v.toNat : Int), .int .u64 (b.v.toNat : Int), .int .u64 65581] w fun v w' => v = .tuple #[.int .u64 ((a * b).v.toNat : Int), .int .i64 0] ∧ w' = w := by
  have hp : blen 65581 = 17 := by decide +kernel
  refine run_ring_MulMod (by simp) ?_
  simp only [c_ring_MulMod, WS, List.getElem_cons_zero, List.getElem_cons_succ, Option.isNone_some, Option.isNone_none, List.getD_cons_zero, List.getD_cons_succ, I.at, atL, atO, atP, evp, evs, retV, ↓reduceIte, Nat.reduceEqDiff, reduceCtorEq]
  refine X_call0 ((ring_isModulus_spec w 65581 32 (by decide) (by decide)).mono ?_)
  rintro v w' ⟨rfl, rfl⟩
  rw [hp]
  simp only [WS, List.getElem_cons_zero, List.getElem_cons_succ, Option.isNone_some, Option.isNone_none, List.getD_cons_zero, List.getD_cons_succ, I.at, atL, atO, atP, evp, evs, retV, ↓reduceIte, Nat.reduceEqDiff, reduceCtorEq, show decide (2 ≤ 17 ∧ 17 ≤ 32 + 1) = true from rfl]
  refine X_call0 ((ring_mulMod_spec w' a b).mono ?_)
  rintro v w ⟨rfl, rfl⟩
  simp only [WS, List.getElem_cons_zero, List.getElem_cons_succ, Option.isNone_some, Option.isNone_none, List.getD_cons_zero, List.getD_cons_succ, I.at, atL, atO, atP, evp, evs, retV, ↓reduceIte, Nat.reduceEqDiff, reduceCtorEq]
theorem gf16_Mul_spec (w : World) (a b : El 16) : CallV Try.prog 76 [.int .u16 (a.v.toNat : Int), .int .u16 (b.v.toNat : Int)] w fun v w' => v = .int .u16 ((a * b).v.toNat : Int) ∧ w' = w := by
  have ha := a.v.isLt
  have hb := b.v.isLt
  have hab := (a * b).v.isLt
  refine run_gf16_Mul (by simp) ?_
  simp only [c_gf16_Mul, WS, List.getElem_cons_zero, List.getElem_cons_succ, Option.isNone_some, Option.isNone_none, List.getD_cons_zero, List.getD_cons_succ, I.at, atL, atO, atP, evp, evs, retV, ↓reduceIte, Nat.reduceEqDiff, reduceCtorEq, wrap_u64 _ (show a.v.toNat < 18446744073709551616 by omega), wrap_u64 _ (show b.v.toNat < 18446744073709551616 by omega)]
  refine X_call0 ((ring_MulMod_spec w a b).mono ?_)
  rintro v w' ⟨rfl, rfl⟩
  simp only [WS, List.getElem_cons_zero, List.getElem_cons_succ, Option.isNone_some, Option.isNone_none, List.getD_cons_zero, List.getD_cons_succ, I.at, atL, atO, atP, evp, evs, retV, ↓reduceIte, Nat.reduceEqDiff, reduceCtorEq, wrap_u16 _ hab]
end Go.Proofs.Ytcdagkcchfibjaa.Fw

namespace Go.Proofs.Ytcdagkcchfibjaa.Fw
open Go Go.Fw
theorem gf8_Mul_spec (w : World) (a b : El 8) : CallV Try.prog 86 [.int .u8 (a.v.toNat : Int), .int .u8 (b.v.toNat : Int)] w fun v w' => v = .int .u8 ((a * b).v.toNat : Int) ∧ w' = w := by
  have ha := a.v.isLt
  have hb := b.v.isLt
  refine run_gf8_Mul (by simp) ?_
  simp only [c_gf8_Mul, WS, List.getElem_cons_zero, List.getElem_cons_succ, Option.isNone_some, Option.isNone_none, List.getD_cons_zero, List.getD_cons_succ, I.at, atL, atO, atP, evp, evs, retV, ↓reduceIte, Nat.reduceEqDiff, reduceCtorEq, wrap_u64 _ (show a.v.toNat < 18446744073709551616 by omega)]
  refine loop_of (fun t w' => w' = w ∧ ∃ (m : Nat) (x p : BitVec 8), m ≤ 8 ∧ t 1 = .int .u8 ((b.v.toNat >>> m : Nat) : Int) ∧ t 5 = .int .u64 (x.toNat : Int) ∧ t 6 = .int .u64 (p.toNat : Int) ∧ x = pw r8 a.v m ∧ p = bsum (fun i => sel (b.v.getLsbD i) (pw r8 a.v i)) m)
    (fun t _ => (toI (t 1)).toNat) ⟨rfl, 0, a.v, 0, by omega, rfl, rfl, rfl, rfl, rfl⟩ ?_
  rintro t w' ⟨rfl, m, x, p, hm, h1, h5, h6, hx, hp⟩
  have hx8 := x.isLt
  have hp8 := p.isLt
  have hle : b.v.toNat >>> m ≤ b.v.toNat := by rw [Nat.shiftRight_eq_div_pow]; exact Nat.div_le_self _ _
  by_cases h0 : b.v.toNat >>> m = 0
  · simp only [WS, List.getElem_cons_zero, List.getElem_cons_succ, Option.isNone_some, Option.isNone_none, List.getD_cons_zero, List.getD_cons_succ, I.at, atL, atO, atP, evp, evs, retV, ↓reduceIte, Nat.reduceEqDiff, reduceCtorEq, h0, h1, h5, h6, Int.natCast_zero, show decide ((0 : Int) = 0) = true from rfl, show decide (((0 : Nat) : Int) = 0) = true from rfl, wrap_u8 _ (show p.toNat < 256 by omega)]
    have he : p = (a * b).v := by
      rw [El.mul_v]
      show p = bsum _ 8
      have hz := bsum_ext_zero (fun i => sel (b.v.getLsbD i) (pw r8 a.v i)) m (8 - m) fun i h1 h2 => by
        have : b.v.getLsbD i = false := by
          have h3 : (b.v.toNat >>> m).testBit (i - m) = false := by rw [h0]; simp
          rw [Nat.testBit_shiftRight, show m + (i - m) = i by omega] at h3
          exact h3
        show sel (b.v.getLsbD i) _ = 0
        rw [this]; rfl
      rw [show m + (8 - m) = 8 by omega] at hz
      rw [hp]
      exact hz.symm
    rw [he]
  · have hm8 : m < 8 := by
      rcases Nat.lt_or_ge m 8 with h | h
      · exact h
      · exfalso; apply h0; rw [show m = 8 by omega, Nat.shiftRight_eq_div_pow]; omega
    have d1 : decide (((b.v.toNat >>> m : Nat) : Int) = 0) = false := decide_eq_false (by omega)
    have t1 : bitsOp .and .u8 ((b.v.toNat >>> m : Nat) : Int) 1 = if b.v.getLsbD m then 1 else 0 := by
      rw [show (1 : Int) = ((1 : Nat) : Int) from rfl, bits_and fits_u8 (show b.v.toNat >>> m < 2 ^ 8 by omega) (by decide), and_one_shr]
      rw [show b.v.toNat.testBit m = b.v.getLsbD m from BitVec.testBit_toNat b.v]
      split <;> rfl
    have s1 : shlV .u64 (x.toNat : Int) 1 = ((x.toNat <<< 1 : Nat) : Int) := shl_nat fits_u64 x.toNat 1 (by decide) (by omega)
    have e2 : x.toNat <<< 1 = 2 * x.toNat := by rw [Nat.shiftLeft_eq]; omega
    have t2 : bitsOp .and .u64 ((x.toNat <<< 1 : Nat) : Int) 256 = if x.msb then 256 else 0 := by
      rw [show (256 : Int) = ((256 : Nat) : Int) from rfl, bits_and fits_u64 (by omega) (by decide), and256]
      split <;> rfl
    have x1 : bitsOp .xor .u64 ((x.toNat <<< 1 : Nat) : Int) 285 = (((x.toNat <<< 1) ^^^ 285 : Nat) : Int) := bits_xor fits_u64 (show x.toNat <<< 1 < 2 ^ 64 by omega) (by decide)
    have x2 : bitsOp .xor .u64 (p.toNat : Int) (x.toNat : Int) = ((p ^^^ x).toNat : Int) := by rw [bits_xor fits_u64 (show p.toNat < 2 ^ 64 by omega) (show x.toNat < 2 ^ 64 by omega), BitVec.toNat_xor]
    have sh : shrV .u8 ((b.v.toNat >>> m : Nat) : Int) 1 = ((b.v.toNat >>> (m + 1) : Nat) : Int) := by
      rw [show (1 : Int) = ((1 : Nat) : Int) from rfl, shr_nat .u8 _ 1 (by decide), ← Nat.shiftRight_add]
    have v1 := mx8_val x
    have hlt : b.v.toNat >>> (m + 1) < b.v.toNat >>> m := by rw [Nat.shiftRight_succ]; exact Nat.div_lt_self (Nat.pos_of_ne_zero h0) (by decide)
    have n1 : pw r8 a.v (m + 1) = mx r8 x := by rw [hx]; rfl
    have n2 : bsum (fun i => sel (b.v.getLsbD i) (pw r8 a.v i)) (m + 1) = p ^^^ sel (b.v.getLsbD m) x := by rw [hx, hp]; rfl
    cases hmsb : x.msb <;> cases hbm : b.v.getLsbD m <;> simp only [hmsb, hbm, if_true, if_false, Bool.false_eq_true] at t1 t2 v1 n2
    · simp only [WS, List.getElem_cons_zero, List.getElem_cons_succ, Option.isNone_some, Option.isNone_none, List.getD_cons_zero, List.getD_cons_succ, I.at, atL, atO, atP, evp, evs, retV, ↓reduceIte, Nat.reduceEqDiff, reduceCtorEq, X_shl, X_shr, Int.reduceLE, h1, h5, h6, d1, t1, t2, s1, sh, Int.reduceEq, toI_int, Int.toNat_natCast]
      exact ⟨⟨m + 1, mx r8 x, p, by omega, rfl, by rw [v1], rfl, n1.symm, by rw [n2]; exact BitVec.xor_zero.symm⟩, hlt⟩
    · simp only [WS, List.getElem_cons_zero, List.getElem_cons_succ, Option.isNone_some, Option.isNone_none, List.getD_cons_zero, List.getD_cons_succ, I.at, atL, atO, atP, evp, evs, retV, ↓reduceIte, Nat.reduceEqDiff, reduceCtorEq, X_shl, X_shr, Int.reduceLE, h1, h5, h6, d1, t1, t2, s1, sh, x2, Int.reduceEq, toI_int, Int.toNat_natCast]
      exact ⟨⟨m + 1, mx r8 x, p ^^^ x, by omega, rfl, by rw [v1], rfl, n1.symm, by rw [n2]; rfl⟩, hlt⟩
    · simp only [WS, List.getElem_cons_zero, List.getElem_cons_succ, Option.isNone_some, Option.isNone_none, List.getD_cons_zero, List.getD_cons_succ, I.at, atL, atO, atP, evp, evs, retV, ↓reduceIte, Nat.reduceEqDiff, reduceCtorEq, X_shl, X_shr, Int.reduceLE, h1, h5, h6, d1, t1, t2, s1, sh, x1, v1, Int.reduceEq, toI_int, Int.toNat_natCast]
      exact ⟨⟨m + 1, mx r8 x, p, by omega, rfl, rfl, rfl, n1.symm, by rw [n2]; exact BitVec.xor_zero.symm⟩, hlt⟩
    · simp only [WS, List.getElem_cons_zero, List.getElem_cons_succ, Option.isNone_some, Option.isNone_none, List.getD_cons_zero, List.getD_cons_succ, I.at, atL, atO, atP, evp, evs, retV, ↓reduceIte, Nat.reduceEqDiff, reduceCtorEq, X_shl, X_shr, Int.reduceLE, h1, h5, h6, d1, t1, t2, s1, sh, x1, v1, x2, Int.reduceEq, toI_int, Int.toNat_natCast]
      exact ⟨⟨m + 1, mx r8 x, p ^^^ x, by omega, rfl, rfl, rfl, n1.symm, by rw [n2]; rfl⟩, hlt⟩
/-- The tables of the field of 256 elements. -/
def tabC (E L : List Nat) : List Value := E.map (fun n => .int .u8 (n : Int)) ++ L.map (fun n => .int .i64 (n : Int))
def Tab8 (w : World) (p : Value) : Prop := ∃ b E L, p = .pointer (some ⟨b, 0, none⟩) ∧ Row w b (tabC E L) ∧ E.length = 510 ∧ L.length = 256 ∧ (∀ j, j < 510 → E[j]? = some (gp j).toNat) ∧ ∀ j, j < 255 → L[(gp j).toNat]? = some j
theorem Tab8.up {w w' : World} {p : Value} (h : Tab8 w p) (hb : RowKit.Below w.heap.size w w') : Tab8 w' p := by
  obtain ⟨b, E, L, h1, h2, h3⟩ := h
  exact ⟨b, E, L, h1, h2.up hb, h3⟩
theorem Tab8.stays' {w : World} {b : Nat} {E L : List Nat} (hr : Row w b (tabC E L)) {p : Value} (hp : p = .pointer (some ⟨b, 0, none⟩)) (h : Tab8 w p) : ∀ w2, w2.heap[b]? = w.heap[b]? → Tab8 w2 p := by
  obtain ⟨b', E', L', h1, h2, h3⟩ := h
  subst hp
  cases h1
  exact fun w2 hw => ⟨b, E', L', rfl, row_up h2 hw, h3⟩
theorem gf8_Mul_two (w : World) (i : Nat) : CallV Try.prog 86 [.int .u8 ((gp i).toNat : Int), .int .u8 2] w fun v w' => v = .int .u8 ((gp (i + 1)).toNat : Int) ∧ w' = w := by
  have h := gf8_Mul_spec w ⟨gp i⟩ ⟨2⟩
  have e1 : (⟨gp i⟩ : El 8) * ⟨2⟩ = ⟨gp (i + 1)⟩ := by
    apply El.ext
    show bmul r8 (gp i) 2 = gp (i + 1)
    rw [← gp_mul]; rfl
  rw [e1] at h
  exact h
theorem gf8_New_spec (w : World) : CallV Try.prog 73 [] w fun v w' => Tab8 w' v ∧ RowKit.Below w.heap.size w w' ∧ ∀ w2, Stays w w' w2 → Tab8 w2 v := by
  refine run_gf8_New (by simp) ?_
  have hz : ∀ cs : List Value, fillL cs [] = some cs := fun cs => rfl
  simp only [c_gf8_New, WS, List.getElem_cons_zero, List.getElem_cons_succ, Option.isNone_some, Option.isNone_none, List.getD_cons_zero, List.getD_cons_succ, I.at, atL, atO, atP, evp, evs, retV, ↓reduceIte, Nat.reduceEqDiff, reduceCtorEq, X_bld, hz]
  refine X_box ?_
  intro b w1 hr hb hB
  simp only [WS, List.getElem_cons_zero, List.getElem_cons_succ, Option.isNone_some, Option.isNone_none, List.getD_cons_zero, List.getD_cons_succ, I.at, atL, atO, atP, evp, evs, retV, ↓reduceIte, Nat.reduceEqDiff, reduceCtorEq]
  refine loop_of (fun t w' => ∃ (i : Nat) (E L : List Nat), i ≤ 255 ∧ t 1 = .pointer (some ⟨b, 0, none⟩) ∧ t 2 = .int .u8 ((gp i).toNat : Int) ∧ t 6 = .int .i64 (i : Int) ∧ Row w' b (tabC E L) ∧ RowKit.Below w.heap.size w w' ∧ E.length = 510 ∧ L.length = 256 ∧
    (∀ j, j < i → E[j]? = some (gp j).toNat ∧ E[j + 255]? = some (gp j).toNat) ∧ ∀ j, j < i → L[(gp j).toNat]? = some j)
    (fun t _ => (255 - toI (t 6)).toNat) ⟨0, List.replicate 510 0, List.replicate 256 0, by omega, rfl, rfl, rfl, ?_, hB, by simp, by simp, fun j h => absurd h (by omega), fun j h => absurd h (by omega)⟩ ?_
  · have : tabC (List.replicate 510 0) (List.replicate 256 0) = List.replicate 510 (.int .u8 0) ++ List.replicate 256 (.int .i64 0) := by simp [tabC]
    rw [this]
    exact hr
  rintro t w2 ⟨i, E, L, hi, h1, h2, h6, hr, hB, hE, hL, hp, hl⟩
  by_cases hlt : i < 255
  · have d1 : decide ((i : Int) < 255) = true := decide_eq_true (by omega)
    have wi : IntKind.i64.wrap ((i : Int) + 255) = ((i + 255 : Nat) : Int) := by rw [wrap_id (by omega) (by omega)]; omega
    have wi1 : IntKind.i64.wrap ((i : Int) + 1) = ((i + 1 : Nat) : Int) := by rw [wrap_id (by omega) (by omega)]; omega
    have hg := (gp i).isLt
    have hlen : (tabC E L).length = 766 := by simp [tabC, hE, hL]
    simp only [WS, List.getElem_cons_zero, List.getElem_cons_succ, Option.isNone_some, Option.isNone_none, List.getD_cons_zero, List.getD_cons_succ, I.at, atL, atO, atP, evp, evs, retV, ↓reduceIte, Nat.reduceEqDiff, reduceCtorEq, h1, h2, h6, d1]
    refine WP_dops ?_
    simp only [ES, List.mem_cons, List.not_mem_nil, implies_true, forall_const, WS, List.getElem_cons_zero, List.getElem_cons_succ, Option.isNone_some, Option.isNone_none, List.getD_cons_zero, List.getD_cons_succ, I.at, atL, atO, atP, evp, evs, retV, ↓reduceIte, Nat.reduceEqDiff, reduceCtorEq, h1, h2, wi, X_ixa, E_ixa (show i < 510 by omega), addr_add0, Nat.zero_add, Nat.mul_one, Nat.add_zero]
    refine Row.Est (o := i) hr.drew (by omega) rfl fun w3 hr3 hg3 => ?_
    simp only [ES, List.mem_cons, List.not_mem_nil, implies_true, forall_const, WS, List.getElem_cons_zero, List.getElem_cons_succ, Option.isNone_some, Option.isNone_none, List.getD_cons_zero, List.getD_cons_succ, I.at, atL, atO, atP, evp, evs, retV, ↓reduceIte, Nat.reduceEqDiff, reduceCtorEq, h1, h2, wi, E_ixa (show i + 255 < 510 by omega), addr_add0, Nat.zero_add, Nat.mul_one, Nat.add_zero]
    refine Row.Est (o := i + 255) hr3 (by rw [List.length_set]; omega) rfl fun w4 hr4 hg4 => ?_
    simp only [ES, List.mem_cons, List.not_mem_nil, implies_true, forall_const, WS, List.getElem_cons_zero, List.getElem_cons_succ, Option.isNone_some, Option.isNone_none, List.getD_cons_zero, List.getD_cons_succ, I.at, atL, atO, atP, evp, evs, retV, ↓reduceIte, Nat.reduceEqDiff, reduceCtorEq, h1, h2, X_ixa (show (gp i).toNat < 256 from hg), addr_add0, Nat.zero_add, Nat.mul_one, Nat.add_zero]
    refine Row.Xst (o := 510 + (gp i).toNat) hr4 (by rw [List.length_set, List.length_set]; omega) rfl fun w5 hr5 hg5 => ?_
    simp only [WS, List.getElem_cons_zero, List.getElem_cons_succ, Option.isNone_some, Option.isNone_none, List.getD_cons_zero, List.getD_cons_succ, I.at, atL, atO, atP, evp, evs, retV, ↓reduceIte, Nat.reduceEqDiff, reduceCtorEq, h2]
    refine X_call0 ((gf8_Mul_two w5 i).mono ?_)
    rintro v w' ⟨rfl, rfl⟩
    simp only [WS, List.getElem_cons_zero, List.getElem_cons_succ, Option.isNone_some, Option.isNone_none, List.getD_cons_zero, List.getD_cons_succ, I.at, atL, atO, atP, evp, evs, retV, ↓reduceIte, Nat.reduceEqDiff, reduceCtorEq, h1, h6, wi1, toI_int]
    have hcs : (((tabC E L).set i (.int .u8 ((gp i).toNat : Int))).set (i + 255) (.int .u8 ((gp i).toNat : Int))).set (510 + (gp i).toNat) (.int .i64 (i : Int)) = tabC ((E.set i (gp i).toNat).set (i + 255) (gp i).toNat) (L.set (gp i).toNat i) := by
      unfold tabC
      rw [List.set_append_left _ _ (by simp; omega), List.set_append_left _ _ (by simp; omega), List.set_append_right _ _ (by simp; omega)]
      congr 1
      · simp only [List.map_set]
      · simp only [List.map_set, List.length_set, List.length_map, hE, Nat.add_sub_cancel_left]
    rw [hcs] at hr5
    refine ⟨⟨i + 1, (E.set i (gp i).toNat).set (i + 255) (gp i).toNat, L.set (gp i).toNat i, by omega, rfl, rfl, hr5, ?_, by simp [hE], by simp [hL], ?_, ?_⟩, by omega⟩
    · exact Below.row (Below.row (Below.row (hB.trans ((bel_drew w2).mono hB.size)) hb hg3) hb hg4) hb hg5
    · intro j hj
      have h255 : (i + 255) < E.length := by omega
      have hij : (if i < E.length then some (gp i).toNat else none) = some (gp i).toNat := if_pos (by omega)
      by_cases e : j = i
      · subst e
        have h1' : j < E.length := by omega
        simp [List.getElem?_set, h255, h1']
      · have := hp j (by omega)
        simp only [List.getElem?_set, List.length_set]
        rw [if_neg (by omega), if_neg (by omega), if_neg (by omega), if_neg (by omega)]
        exact this
    · intro j hj
      by_cases e : j = i
      · subst e
        rw [List.getElem?_set, if_pos rfl, if_pos (by omega)]
      · rw [List.getElem?_set, if_neg]
        · exact hl j (by omega)
        · intro h
          exact e (gp_inj (by omega) (by omega) (BitVec.eq_of_toNat_eq h.symm))
  · have d1 : decide ((i : Int) < 255) = false := decide_eq_false (by omega)
    have : i = 255 := by omega
    subst this
    simp only [WS, List.getElem_cons_zero, List.getElem_cons_succ, Option.isNone_some, Option.isNone_none, List.getD_cons_zero, List.getD_cons_succ, I.at, atL, atO, atP, evp, evs, retV, ↓reduceIte, Nat.reduceEqDiff, reduceCtorEq, h1, h2, h6, d1]
    have hT : Tab8 w2 (.pointer (some ⟨b, 0, none⟩)) := by
     refine ⟨b, E, L, rfl, hr, hE, hL, fun j hj => ?_, hl⟩
     by_cases h : j < 255
     · exact (hp j h).1
     · have := (hp (j - 255) (by omega)).2
       rw [show j - 255 + 255 = j by omega] at this
       rw [this, show gp j = gp (255 + (j - 255)) by congr 1; omega, gp_wrap]
    exact ⟨hT, hB, fun w3 hs => Tab8.stays' hr rfl hT w3 (hs b hb (row_lt hr))⟩
theorem tab_exp {E L : List Nat} (hE : E.length = 510) {j : Nat} (hj : j < 510) (h : E[j]? = some (gp j).toNat) (hlt : j < (tabC E L).length) : (tabC E L)[j] = .int .u8 ((gp j).toNat : Int) := by
  have : (tabC E L)[j]? = some (.int .u8 ((gp j).toNat : Int)) := by
    unfold tabC
    rw [List.getElem?_append_left (by simp; omega), List.getElem?_map, h]; rfl
  rw [List.getElem?_eq_getElem hlt] at this
  exact Option.some.inj this
theorem tab_log {E L : List Nat} (hE : E.length = 510) {a j : Nat} (h : L[a]? = some j) (hlt : 510 + a < (tabC E L).length) : (tabC E L)[510 + a] = .int .i64 (j : Int) := by
  have : (tabC E L)[510 + a]? = some (.int .i64 (j : Int)) := by
    unfold tabC
    rw [List.getElem?_append_right (by simp; omega), List.length_map, hE, Nat.add_sub_cancel_left, List.getElem?_map, h]; rfl
  rw [List.getElem?_eq_getElem hlt] at this
  exact Option.some.inj this
theorem gf8_Tables_Mul_spec (w : World) (p : Value) (h : Tab8 w p) (a b : El 8) : CallV Try.prog 74 [p, .int .u8 (a.v.toNat : Int), .int .u8 (b.v.toNat : Int)] w fun v w' => v = .int .u8 ((a * b).v.toNat : Int) ∧ Like w w' := by
  obtain ⟨bl, E, L, rfl, hr, hE, hL, hp, hl⟩ := h
  have hlen : (tabC E L).length = 766 := by simp [tabC, hE, hL]
  have ha := a.v.isLt
  have hb := b.v.isLt
  refine run_gf8_Tables_Mul (by simp) ?_
  by_cases ha0 : a = 0
  · subst ha0
    simp only [c_gf8_Tables_Mul, WS, List.getElem_cons_zero, List.getElem_cons_succ, Option.isNone_some, Option.isNone_none, List.getD_cons_zero, List.getD_cons_succ, I.at, atL, atO, atP, evp, evs, retV, ↓reduceIte, Nat.reduceEqDiff, reduceCtorEq, El.zero_mul]
    simp only [WS, List.getElem_cons_zero, List.getElem_cons_succ, Option.isNone_some, Option.isNone_none, List.getD_cons_zero, List.getD_cons_succ, I.at, atL, atO, atP, evp, evs, retV, ↓reduceIte, Nat.reduceEqDiff, reduceCtorEq, show decide ((((0 : El 8).v.toNat : Nat) : Int) = 0) = true from rfl]
    exact ⟨rfl, Like.refl w⟩
  by_cases hb0 : b = 0
  · subst hb0
    have d1 : decide ((a.v.toNat : Int) = 0) = false := decide_eq_false (by rw [el_zero]; exact ha0)
    simp only [c_gf8_Tables_Mul, WS, List.getElem_cons_zero, List.getElem_cons_succ, Option.isNone_some, Option.isNone_none, List.getD_cons_zero, List.getD_cons_succ, I.at, atL, atO, atP, evp, evs, retV, ↓reduceIte, Nat.reduceEqDiff, reduceCtorEq, d1, El.mul_zero]
    simp only [WS, List.getElem_cons_zero, List.getElem_cons_succ, Option.isNone_some, Option.isNone_none, List.getD_cons_zero, List.getD_cons_succ, I.at, atL, atO, atP, evp, evs, retV, ↓reduceIte, Nat.reduceEqDiff, reduceCtorEq, show decide ((((0 : El 8).v.toNat : Nat) : Int) = 0) = true from rfl]
    exact ⟨rfl, Like.refl w⟩
  have d1 : decide ((a.v.toNat : Int) = 0) = false := decide_eq_false (by rw [el_zero]; exact ha0)
  have d2 : decide ((b.v.toNat : Int) = 0) = false := decide_eq_false (by rw [el_zero]; exact hb0)
  obtain ⟨i, hi, ei⟩ := gp_ex a.v (fun e => ha0 (El.ext e))
  obtain ⟨j, hj, ej⟩ := gp_ex b.v (fun e => hb0 (El.ext e))
  have hli := hl i hi
  have hlj := hl j hj
  rw [ei] at hli
  rw [ej] at hlj
  have wi : IntKind.i64.wrap ((i : Int) + (j : Int)) = ((i + j : Nat) : Int) := by rw [wrap_id (by omega) (by omega)]; omega
  simp only [c_gf8_Tables_Mul, WS, List.getElem_cons_zero, List.getElem_cons_succ, Option.isNone_some, Option.isNone_none, List.getD_cons_zero, List.getD_cons_succ, I.at, atL, atO, atP, evp, evs, retV, ↓reduceIte, Nat.reduceEqDiff, reduceCtorEq, d1, d2]
  refine WP_dops ?_
  simp only [ES, List.mem_cons, List.not_mem_nil, implies_true, forall_const, WS, List.getElem_cons_zero, List.getElem_cons_succ, Option.isNone_some, Option.isNone_none, List.getD_cons_zero, List.getD_cons_succ, I.at, atL, atO, atP, evp, evs, retV, ↓reduceIte, Nat.reduceEqDiff, reduceCtorEq, E_ixa (show a.v.toNat < 256 from ha), E_ixa (show b.v.toNat < 256 from hb), addr_add0, Nat.zero_add, Nat.mul_one, Nat.add_zero,
    hr.drew.Eld (show 510 + a.v.toNat < _ by omega), hr.drew.Eld (show 510 + b.v.toNat < _ by omega), tab_log hE hli, tab_log hE hlj, wi, E_ixa (show i + j < 510 by omega), hr.drew.Eld (show i + j < _ by omega), tab_exp hE (show i + j < 510 by omega) (hp (i + j) (by omega))]
  refine ⟨congrArg (fun z : BitVec 8 => Value.int .u8 (z.toNat : Int)) ?_, Like.drew w⟩
  rw [← gp_mul, ei, ej]; rfl
theorem gf8_Tables_Inv_spec (w : World) (p : Value) (h : Tab8 w p) (a : El 8) (ha0 : a ≠ 0) : CallV Try.prog 75 [p, .int .u8 (a.v.toNat : Int)] w fun v w' => v = .tuple #[.int .u8 (a.inv.v.toNat : Int), .int .i64 0] ∧ Like w w' := by
  obtain ⟨bl, E, L, rfl, hr, hE, hL, hp, hl⟩ := h
  have hlen : (tabC E L).length = 766 := by simp [tabC, hE, hL]
  have ha := a.v.isLt
  refine run_gf8_Tables_Inv (by simp) ?_
  have d1 : decide ((a.v.toNat : Int) = 0) = false := decide_eq_false (by rw [el_zero]; exact ha0)
  obtain ⟨i, hi, ei⟩ := gp_ex a.v (fun e => ha0 (El.ext e))
  have hli := hl i hi
  rw [ei] at hli
  have wi : IntKind.i64.wrap (255 - (i : Int)) = ((255 - i : Nat) : Int) := by rw [wrap_id (by omega) (by omega)]; omega
  simp only [c_gf8_Tables_Inv, WS, List.getElem_cons_zero, List.getElem_cons_succ, Option.isNone_some, Option.isNone_none, List.getD_cons_zero, List.getD_cons_succ, I.at, atL, atO, atP, evp, evs, retV, ↓reduceIte, Nat.reduceEqDiff, reduceCtorEq, d1]
  refine WP_dops ?_
  simp only [ES, List.mem_cons, List.not_mem_nil, implies_true, forall_const, WS, List.getElem_cons_zero, List.getElem_cons_succ, Option.isNone_some, Option.isNone_none, List.getD_cons_zero, List.getD_cons_succ, I.at, atL, atO, atP, evp, evs, retV, ↓reduceIte, Nat.reduceEqDiff, reduceCtorEq, E_ixa (show a.v.toNat < 256 from ha), addr_add0, Nat.zero_add, Nat.mul_one, Nat.add_zero,
    hr.drew.Eld (show 510 + a.v.toNat < _ by omega), tab_log hE hli, wi, E_ixa (show 255 - i < 510 by omega), hr.drew.Eld (show 255 - i < _ by omega), tab_exp hE (show 255 - i < 510 by omega) (hp (255 - i) (by omega))]
  have : a.inv = ⟨gp (255 - i)⟩ := by
    have h1 : a * ⟨gp (255 - i)⟩ = 1 := by
      apply El.ext
      show bmul r8 a.v (gp (255 - i)) = 1
      rw [← ei, gp_mul, show i + (255 - i) = 255 by omega, gp_255]
    have h2 := El.mul_inv a ha0
    calc a.inv = a.inv * (a * ⟨gp (255 - i)⟩) := by rw [h1, El.mul_one]
      _ = a * a.inv * ⟨gp (255 - i)⟩ := by ac_rfl
      _ = _ := by rw [h2, El.one_mul]
  rw [this]
  exact ⟨rfl, Like.drew w⟩
end Go.Proofs.Ytcdagkcchfibjaa.Fw

namespace Go.Proofs.Ytcdagkcchfibjaa.Fw
open Go Go.Fw
/-- The ring's two functions. -/
def Mul_w (w : World) (v : Value) : Prop := v = .func (.func 76) #[] #[]
def Inv_w (w : World) (v : Value) : Prop := v = .func (.func 77) #[] #[]
def Mul_b (w : World) (v : Value) : Prop := ∃ p, v = .func (.func 74) #[p] #[] ∧ Tab8 w p
def Inv_b (w : World) (v : Value) : Prop := ∃ p, v = .func (.func 75) #[p] #[] ∧ Tab8 w p
def Ring_w (w : World) (r : Value) : Prop := ∃ b mv iv, r = .pointer (some ⟨b, 0, none⟩) ∧ Row w b [mv, iv] ∧ Mul_w w mv ∧ Inv_w w iv
def Ring_b (w : World) (r : Value) : Prop := ∃ b mv iv, r = .pointer (some ⟨b, 0, none⟩) ∧ Row w b [mv, iv] ∧ Mul_b w mv ∧ Inv_b w iv
theorem Ring_w.up {w w' : World} {r : Value} (h : Ring_w w r) (hb : RowKit.Below w.heap.size w w') : Ring_w w' r := by
  obtain ⟨b, mv, iv, h1, h2, h3, h4⟩ := h
  exact ⟨b, mv, iv, h1, h2.up hb, h3, h4⟩
theorem Ring_b.up {w w' : World} {r : Value} (h : Ring_b w r) (hb : RowKit.Below w.heap.size w w') : Ring_b w' r := by
  obtain ⟨b, mv, iv, h1, h2, ⟨p, h3, h4⟩, ⟨q, h5, h6⟩⟩ := h
  exact ⟨b, mv, iv, h1, h2.up hb, ⟨p, h3, h4.up hb⟩, ⟨q, h5, h6.up hb⟩⟩
theorem Ring_w.drew {w : World} {r : Value} (h : Ring_w w r) : Ring_w w.drew r := h.up (bel_drew w)
theorem Ring_b.drew {w : World} {r : Value} (h : Ring_b w r) : Ring_b w.drew r := h.up (bel_drew w)
theorem Mul_w.call {w : World} {v : Value} (h : Mul_w w v) (x y : El 16) {K : Value → World → Prop} (hk : ∀ w', Like w w' → K (.int .u16 ((x * y).v.toNat : Int)) w') : callK Try.prog v [.int .u16 (x.v.toNat : Int), .int .u16 (y.v.toNat : Int)] w K := by
  obtain rfl := h
  refine (gf16_Mul_spec w x y).mono ?_
  rintro _ _ ⟨rfl, rfl⟩
  exact hk _ (Like.refl _)
theorem Mul_b.call {w : World} {v : Value} (h : Mul_b w v) (x y : El 8) {K : Value → World → Prop} (hk : ∀ w', Like w w' → K (.int .u8 ((x * y).v.toNat : Int)) w') : callK Try.prog v [.int .u8 (x.v.toNat : Int), .int .u8 (y.v.toNat : Int)] w K := by
  obtain ⟨p, rfl, ht⟩ := h
  refine (gf8_Tables_Mul_spec w p ht x y).mono ?_
  rintro _ _ ⟨rfl, hl⟩
  exact hk _ hl
theorem polys_Over16_spec (w : World) : CallV Try.prog 36 [] w fun v w' => Ring_w w' v ∧ RowKit.Below w.heap.size w w' ∧ ∀ w2, Stays w w' w2 → Ring_w w2 v := by
  refine run_polys_Over16 (by simp) ?_
  simp only [c_polys_Over16, WS, List.getElem_cons_zero, List.getElem_cons_succ, Option.isNone_some, Option.isNone_none, List.getD_cons_zero, List.getD_cons_succ, I.at, atL, atO, atP, evp, evs, retV, ↓reduceIte, Nat.reduceEqDiff, reduceCtorEq, X_bld]
  refine X_box ?_
  intro b w' hr hb hB
  simp only [WS, List.getElem_cons_zero, List.getElem_cons_succ, Option.isNone_some, Option.isNone_none, List.getD_cons_zero, List.getD_cons_succ, I.at, atL, atO, atP, evp, evs, retV, ↓reduceIte, Nat.reduceEqDiff, reduceCtorEq]
  exact ⟨⟨b, _, _, rfl, hr, rfl, rfl⟩, hB, fun w2 hs => ⟨b, _, _, rfl, hr.stays hb hs, rfl, rfl⟩⟩
theorem polys_Over8_spec (w : World) : CallV Try.prog 35 [] w fun v w' => Ring_b w' v ∧ RowKit.Below w.heap.size w w' ∧ ∀ w2, Stays w w' w2 → Ring_b w2 v := by
  refine run_polys_Over8 (by simp) ?_
  simp only [c_polys_Over8, WS, List.getElem_cons_zero, List.getElem_cons_succ, Option.isNone_some, Option.isNone_none, List.getD_cons_zero, List.getD_cons_succ, I.at, atL, atO, atP, evp, evs, retV, ↓reduceIte, Nat.reduceEqDiff, reduceCtorEq]
  refine X_call0 ((gf8_New_spec w).mono ?_)
  rintro p w1 ⟨ht, hB1, hst⟩
  have hf : ∀ f g : Value, fillL [.nilFunc, .nilFunc] [(0, 1, Value.func (.func 74) #[p] #[]), (0 + 1, 1, Value.func (.func 75) #[p] #[])] = some [Value.func (.func 74) #[p] #[], Value.func (.func 75) #[p] #[]] := fun _ _ => rfl
  simp only [WS, List.getElem_cons_zero, List.getElem_cons_succ, Option.isNone_some, Option.isNone_none, List.getD_cons_zero, List.getD_cons_succ, I.at, atL, atO, atP, evp, evs, retV, ↓reduceIte, Nat.reduceEqDiff, reduceCtorEq, X_bld]
  refine X_box ?_
  intro b w' hr hb hB
  simp only [WS, List.getElem_cons_zero, List.getElem_cons_succ, Option.isNone_some, Option.isNone_none, List.getD_cons_zero, List.getD_cons_succ, I.at, atL, atO, atP, evp, evs, retV, ↓reduceIte, Nat.reduceEqDiff, reduceCtorEq]
  refine ⟨⟨b, _, _, rfl, hr, ⟨p, rfl, ht.up hB⟩, ⟨p, rfl, ht.up hB⟩⟩, hB1.trans (hB.mono hB1.size), fun w2 hs => ?_⟩
  have ht2 : Tab8 w2 p := hst w2 fun k h1 h2 => (hs k h1 (Nat.lt_of_lt_of_le h2 hB.size)).trans (hB.block k h2)
  exact ⟨b, _, _, rfl, hr.stays (Nat.le_trans hB1.size hb) hs, ⟨p, rfl, ht2⟩, ⟨p, rfl, ht2⟩⟩
end Go.Proofs.Ytcdagkcchfibjaa.Fw
