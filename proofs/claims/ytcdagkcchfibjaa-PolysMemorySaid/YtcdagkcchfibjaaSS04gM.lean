import Derived.Test.YtcdagkcchfibjaaProg
import Derived.Test.YtcdagkcchfibjaaFwTM
import Derived.Test.YtcdagkcchfibjaaGfSM
import Derived.Test.YtcdagkcchfibjaaGfEM
import Derived.Test.YtcdagkcchfibjaaSS04xM
set_option linter.all false
set_option linter.unusedVariables false
set_option linter.unusedSimpArgs false
set_option maxRecDepth 100000
set_option maxHeartbeats 1000000
namespace Go.Proofs.Ytcdagkcchfibjaa.Fw
open Go Go.Fw Go.Proofs
attribute [local irreducible] stepI
def c_polys_Ring_w_Partial : C := .seq (.ops [⟨0, (some 8), none, .mov (.c (.slice none 0 0)), []⟩, ⟨1, (some 9), none, .mov (.c (.slice none 0 0)), []⟩, ⟨2, (some 10), none, .mov (.c (.slice none 0 0)), []⟩, ⟨3, (some 11), none, .mov (.c (.int .i64 0)), []⟩]) (.seq (.seq (.ops [⟨0, (some 19), none, .mov (.t 0), []⟩, ⟨1, (some 20), none, .mov (.t 1), []⟩, ⟨2, (some 21), none, .mov (.t 2), []⟩, ⟨3, (some 22), none, .bsl 27 2 [.slice none 0 0] [(0, (1, .t 20)), (1, (1, .t 21))], []⟩, ⟨4, (some 23), none, .call (.c (.func (.func 78) #[] #[])) [.t 19, .t 22], []⟩, ⟨5, (some 12), none, .mov (.t 23), []⟩]) (.seq (.ops [⟨0, (some 24), none, .mov (.t 12), []⟩, ⟨1, (some 25), none, .bin .neq (.t 24) (.c (.int .i64 0)), []⟩]) (.ite (.t 25) (.seq (.ops [⟨0, (some 26), none, .mov (.t 12), []⟩, ⟨1, (some 8), none, .mov (.c (.slice none 0 0)), []⟩, ⟨2, (some 9), none, .mov (.c (.slice none 0 0)), []⟩, ⟨3, (some 10), none, .mov (.c (.slice none 0 0)), []⟩, ⟨4, (some 11), none, .mov (.t 26), []⟩]) .ret) .skip))) (.seq (.seq (.ops [⟨0, (some 27), none, .mov (.t 3), []⟩, ⟨1, (some 28), none, .bin .lss (.t 27) (.c (.int .i64 0)), []⟩]) (.ite (.t 28) (.seq (.ops [⟨0, (some 8), none, .mov (.c (.slice none 0 0)), []⟩, ⟨1, (some 9), none, .mov (.c (.slice none 0 0)), []⟩, ⟨2, (some 10), none, .mov (.c (.slice none 0 0)), []⟩, ⟨3, (some 11), none, .mov (.c (.int .i64 7)), []⟩]) .ret) .skip)) (.seq (.ops [⟨0, (some 29), none, .mov (.t 1), []⟩, ⟨1, (some 30), none, .call (.c (.func (.func 84) #[] #[])) [.t 29], []⟩, ⟨2, (some 31), none, .mov (.t 2), []⟩, ⟨3, (some 32), none, .call (.c (.func (.func 84) #[] #[])) [.t 31], []⟩, ⟨4, (some 13), none, .mov (.t 30), []⟩, ⟨5, (some 14), none, .mov (.t 32), []⟩]) (.seq (.ops [⟨0, (some 33), none, .bsl 28 1 [.int .u16 0] [(0, (1, .c (.int .u16 1)))], []⟩, ⟨1, (some 9), none, .mov (.t 33), []⟩, ⟨2, (some 10), none, .mov (.c (.slice none 0 0)), []⟩]) (.seq (.ops [⟨0, (some 34), none, .bsl 28 1 [.int .u16 0] [(0, (1, .c (.int .u16 1)))], []⟩, ⟨1, (some 15), none, .mov (.c (.slice none 0 0)), []⟩, ⟨2, (some 16), none, .mov (.t 34), []⟩]) (.seq (.block 0 (.loop (.seq (.seq (.ops [⟨0, (some 35), none, .mov (.t 13), []⟩, ⟨1, (some 36), none, .len (.t 35), []⟩, ⟨2, (some 37), none, .bin .sub (.t 36) (.c (.int .i64 1)), []⟩, ⟨3, (some 38), none, .mov (.t 3), []⟩, ⟨4, (some 39), none, .bin .geq (.t 37) (.t 38), []⟩]) (.ite (.t 39) .skip (.exit 0))) (.block 1 (.seq (.seq (.ops [⟨0, (some 40), none, .mov (.t 14), []⟩, ⟨1, (some 41), none, .len (.t 40), []⟩, ⟨2, (some 42), none, .bin .eql (.t 41) (.c (.int .i64 0)), []⟩]) (.ite (.t 42) (.seq (.ops [⟨0, (some 43), none, .mov (.t 15), []⟩, ⟨1, (some 44), none, .call (.c (.func (.func 84) #[] #[])) [.t 43], []⟩, ⟨2, (some 45), none, .mov (.t 16), []⟩, ⟨3, (some 46), none, .call (.c (.func (.func 84) #[] #[])) [.t 45], []⟩, ⟨4, (some 8), none, .mov (.c (.slice none 0 0)), []⟩, ⟨5, (some 9), none, .mov (.t 44), []⟩, ⟨6, (some 10), none, .mov (.t 46), []⟩, ⟨7, (some 11), none, .mov (.c (.int .i64 0)), []⟩]) .ret) .skip)) (.seq (.ops [⟨0, (some 48), none, .mov (.t 0), []⟩, ⟨1, (some 49), none, .mov (.t 13), []⟩, ⟨2, (some 50), none, .mov (.t 14), []⟩, ⟨3, (some 51), none, .call (.c (.func (.func 92) #[] #[])) [.t 48, .t 49, .t 50], []⟩, ⟨4, (some 47), none, .mov (.t 51), []⟩, ⟨5, (some 52), none, .ext (.t 47) 0, []⟩, ⟨6, (some 53), none, .ext (.t 47) 1, []⟩, ⟨7, (some 17), none, .mov (.t 52), []⟩, ⟨8, (some 18), none, .mov (.t 53), []⟩]) (.seq (.ops [⟨0, (some 54), none, .mov (.t 14), []⟩, ⟨1, (some 55), none, .mov (.t 18), []⟩, ⟨2, (some 13), none, .mov (.t 54), []⟩, ⟨3, (some 14), none, .mov (.t 55), []⟩]) (.seq (.ops [⟨0, (some 56), none, .mov (.t 15), []⟩, ⟨1, (some 57), none, .mov (.t 9), []⟩, ⟨2, (some 58), none, .mov (.t 0), []⟩, ⟨3, (some 59), none, .mov (.t 17), []⟩, ⟨4, (some 60), none, .mov (.t 15), []⟩, ⟨5, (some 61), none, .call (.c (.func (.func 79) #[] #[])) [.t 58, .t 59, .t 60], []⟩, ⟨6, (some 62), none, .call (.c (.func (.func 89) #[] #[])) [.t 57, .t 61], []⟩, ⟨7, (some 9), none, .mov (.t 56), []⟩, ⟨8, (some 15), none, .mov (.t 62), []⟩]) (.ops [⟨0, (some 63), none, .mov (.t 16), []⟩, ⟨1, (some 64), none, .mov (.t 10), []⟩, ⟨2, (some 65), none, .mov (.t 0), []⟩, ⟨3, (some 66), none, .mov (.t 17), []⟩, ⟨4, (some 67), none, .mov (.t 16), []⟩, ⟨5, (some 68), none, .call (.c (.func (.func 79) #[] #[])) [.t 65, .t 66, .t 67], []⟩, ⟨6, (some 69), none, .call (.c (.func (.func 89) #[] #[])) [.t 64, .t 68], []⟩, ⟨7, (some 10), none, .mov (.t 63), []⟩, ⟨8, (some 16), none, .mov (.t 69), []⟩]))))))))) (.seq (.ops [⟨0, (some 70), none, .mov (.t 13), []⟩, ⟨1, (some 71), none, .mov (.t 9), []⟩, ⟨2, (some 72), none, .call (.c (.func (.func 84) #[] #[])) [.t 71], []⟩, ⟨3, (some 73), none, .mov (.t 10), []⟩, ⟨4, (some 74), none, .call (.c (.func (.func 84) #[] #[])) [.t 73], []⟩, ⟨5, (some 8), none, .mov (.t 70), []⟩, ⟨6, (some 9), none, .mov (.t 72), []⟩, ⟨7, (some 10), none, .mov (.t 74), []⟩, ⟨8, (some 11), none, .mov (.c (.int .i64 0)), []⟩]) .ret)))))))
attribute [irreducible] c_polys_Ring_w_Partial
theorem run_polys_Ring_w_Partial {args : List Value} {w : World} {K : Value → World → Prop} (hn : args.length ≤ 75) (h : WP Try.prog c_polys_Ring_w_Partial (endQ [.t 8, .t 9, .t 10, .t 11] K) (initT args) w) : CallV Try.prog 57 args w K :=
  call_of follows Try.func57 (by kernel_rfl) (by kernel_rfl) hn h
def c_polys_Ring_b_Partial : C := .seq (.ops [⟨0, (some 8), none, .mov (.c (.slice none 0 0)), []⟩, ⟨1, (some 9), none, .mov (.c (.slice none 0 0)), []⟩, ⟨2, (some 10), none, .mov (.c (.slice none 0 0)), []⟩, ⟨3, (some 11), none, .mov (.c (.int .i64 0)), []⟩]) (.seq (.seq (.ops [⟨0, (some 19), none, .mov (.t 0), []⟩, ⟨1, (some 20), none, .mov (.t 1), []⟩, ⟨2, (some 21), none, .mov (.t 2), []⟩, ⟨3, (some 22), none, .bsl 57 2 [.slice none 0 0] [(0, (1, .t 20)), (1, (1, .t 21))], []⟩, ⟨4, (some 23), none, .call (.c (.func (.func 80) #[] #[])) [.t 19, .t 22], []⟩, ⟨5, (some 12), none, .mov (.t 23), []⟩]) (.seq (.ops [⟨0, (some 24), none, .mov (.t 12), []⟩, ⟨1, (some 25), none, .bin .neq (.t 24) (.c (.int .i64 0)), []⟩]) (.ite (.t 25) (.seq (.ops [⟨0, (some 26), none, .mov (.t 12), []⟩, ⟨1, (some 8), none, .mov (.c (.slice none 0 0)), []⟩, ⟨2, (some 9), none, .mov (.c (.slice none 0 0)), []⟩, ⟨3, (some 10), none, .mov (.c (.slice none 0 0)), []⟩, ⟨4, (some 11), none, .mov (.t 26), []⟩]) .ret) .skip))) (.seq (.seq (.ops [⟨0, (some 27), none, .mov (.t 3), []⟩, ⟨1, (some 28), none, .bin .lss (.t 27) (.c (.int .i64 0)), []⟩]) (.ite (.t 28) (.seq (.ops [⟨0, (some 8), none, .mov (.c (.slice none 0 0)), []⟩, ⟨1, (some 9), none, .mov (.c (.slice none 0 0)), []⟩, ⟨2, (some 10), none, .mov (.c (.slice none 0 0)), []⟩, ⟨3, (some 11), none, .mov (.c (.int .i64 7)), []⟩]) .ret) .skip)) (.seq (.ops [⟨0, (some 29), none, .mov (.t 1), []⟩, ⟨1, (some 30), none, .call (.c (.func (.func 85) #[] #[])) [.t 29], []⟩, ⟨2, (some 31), none, .mov (.t 2), []⟩, ⟨3, (some 32), none, .call (.c (.func (.func 85) #[] #[])) [.t 31], []⟩, ⟨4, (some 13), none, .mov (.t 30), []⟩, ⟨5, (some 14), none, .mov (.t 32), []⟩]) (.seq (.ops [⟨0, (some 33), none, .bsl 5 1 [.int .u8 0] [(0, (1, .c (.int .u8 1)))], []⟩, ⟨1, (some 9), none, .mov (.t 33), []⟩, ⟨2, (some 10), none, .mov (.c (.slice none 0 0)), []⟩]) (.seq (.ops [⟨0, (some 34), none, .bsl 5 1 [.int .u8 0] [(0, (1, .c (.int .u8 1)))], []⟩, ⟨1, (some 15), none, .mov (.c (.slice none 0 0)), []⟩, ⟨2, (some 16), none, .mov (.t 34), []⟩]) (.seq (.block 0 (.loop (.seq (.seq (.ops [⟨0, (some 35), none, .mov (.t 13), []⟩, ⟨1, (some 36), none, .len (.t 35), []⟩, ⟨2, (some 37), none, .bin .sub (.t 36) (.c (.int .i64 1)), []⟩, ⟨3, (some 38), none, .mov (.t 3), []⟩, ⟨4, (some 39), none, .bin .geq (.t 37) (.t 38), []⟩]) (.ite (.t 39) .skip (.exit 0))) (.block 1 (.seq (.seq (.ops [⟨0, (some 40), none, .mov (.t 14), []⟩, ⟨1, (some 41), none, .len (.t 40), []⟩, ⟨2, (some 42), none, .bin .eql (.t 41) (.c (.int .i64 0)), []⟩]) (.ite (.t 42) (.seq (.ops [⟨0, (some 43), none, .mov (.t 15), []⟩, ⟨1, (some 44), none, .call (.c (.func (.func 85) #[] #[])) [.t 43], []⟩, ⟨2, (some 45), none, .mov (.t 16), []⟩, ⟨3, (some 46), none, .call (.c (.func (.func 85) #[] #[])) [.t 45], []⟩, ⟨4, (some 8), none, .mov (.c (.slice none 0 0)), []⟩, ⟨5, (some 9), none, .mov (.t 44), []⟩, ⟨6, (some 10), none, .mov (.t 46), []⟩, ⟨7, (some 11), none, .mov (.c (.int .i64 0)), []⟩]) .ret) .skip)) (.seq (.ops [⟨0, (some 48), none, .mov (.t 0), []⟩, ⟨1, (some 49), none, .mov (.t 13), []⟩, ⟨2, (some 50), none, .mov (.t 14), []⟩, ⟨3, (some 51), none, .call (.c (.func (.func 94) #[] #[])) [.t 48, .t 49, .t 50], []⟩, ⟨4, (some 47), none, .mov (.t 51), []⟩, ⟨5, (some 52), none, .ext (.t 47) 0, []⟩, ⟨6, (some 53), none, .ext (.t 47) 1, []⟩, ⟨7, (some 17), none, .mov (.t 52), []⟩, ⟨8, (some 18), none, .mov (.t 53), []⟩]) (.seq (.ops [⟨0, (some 54), none, .mov (.t 14), []⟩, ⟨1, (some 55), none, .mov (.t 18), []⟩, ⟨2, (some 13), none, .mov (.t 54), []⟩, ⟨3, (some 14), none, .mov (.t 55), []⟩]) (.seq (.ops [⟨0, (some 56), none, .mov (.t 15), []⟩, ⟨1, (some 57), none, .mov (.t 9), []⟩, ⟨2, (some 58), none, .mov (.t 0), []⟩, ⟨3, (some 59), none, .mov (.t 17), []⟩, ⟨4, (some 60), none, .mov (.t 15), []⟩, ⟨5, (some 61), none, .call (.c (.func (.func 81) #[] #[])) [.t 58, .t 59, .t 60], []⟩, ⟨6, (some 62), none, .call (.c (.func (.func 90) #[] #[])) [.t 57, .t 61], []⟩, ⟨7, (some 9), none, .mov (.t 56), []⟩, ⟨8, (some 15), none, .mov (.t 62), []⟩]) (.ops [⟨0, (some 63), none, .mov (.t 16), []⟩, ⟨1, (some 64), none, .mov (.t 10), []⟩, ⟨2, (some 65), none, .mov (.t 0), []⟩, ⟨3, (some 66), none, .mov (.t 17), []⟩, ⟨4, (some 67), none, .mov (.t 16), []⟩, ⟨5, (some 68), none, .call (.c (.func (.func 81) #[] #[])) [.t 65, .t 66, .t 67], []⟩, ⟨6, (some 69), none, .call (.c (.func (.func 90) #[] #[])) [.t 64, .t 68], []⟩, ⟨7, (some 10), none, .mov (.t 63), []⟩, ⟨8, (some 16), none, .mov (.t 69), []⟩]))))))))) (.seq (.ops [⟨0, (some 70), none, .mov (.t 13), []⟩, ⟨1, (some 71), none, .mov (.t 9), []⟩, ⟨2, (some 72), none, .call (.c (.func (.func 85) #[] #[])) [.t 71], []⟩, ⟨3, (some 73), none, .mov (.t 10), []⟩, ⟨4, (some 74), none, .call (.c (.func (.func 85) #[] #[])) [.t 73], []⟩, ⟨5, (some 8), none, .mov (.t 70), []⟩, ⟨6, (some 9), none, .mov (.t 72), []⟩, ⟨7, (some 10), none, .mov (.t 74), []⟩, ⟨8, (some 11), none, .mov (.c (.int .i64 0)), []⟩]) .ret)))))))
attribute [irreducible] c_polys_Ring_b_Partial
theorem run_polys_Ring_b_Partial {args : List Value} {w : World} {K : Value → World → Prop} (hn : args.length ≤ 75) (h : WP Try.prog c_polys_Ring_b_Partial (endQ [.t 8, .t 9, .t 10, .t 11] K) (initT args) w) : CallV Try.prog 58 args w K :=
  call_of follows Try.func58 (by kernel_rfl) (by kernel_rfl) hn h
end Go.Proofs.Ytcdagkcchfibjaa.Fw
namespace Go.Proofs.Ytcdagkcchfibjaa.Fw
open Go Go.Fw
end Go.Proofs.Ytcdagkcchfibjaa.Fw

namespace Go.Proofs.Ytcdagkcchfibjaa.Fw
open Go Go.Fw
end Go.Proofs.Ytcdagkcchfibjaa.Fw

set_option linter.unusedVariables false
set_option linter.unusedSimpArgs false
set_option maxRecDepth 100000
set_option maxHeartbeats 1000000
namespace Go.Proofs.Ytcdagkcchfibjaa.Fw
open Go Go.Fw Go.Proofs
attribute [local irreducible] stepI
end Go.Proofs.Ytcdagkcchfibjaa.Fw
namespace Go.Proofs.Ytcdagkcchfibjaa.Fw
open Go Go.Fw
end Go.Proofs.Ytcdagkcchfibjaa.Fw

set_option linter.unusedVariables false
set_option linter.unusedSimpArgs false
set_option maxRecDepth 100000
set_option maxHeartbeats 1000000
namespace Go.Proofs.Ytcdagkcchfibjaa.Fw
open Go Go.Fw Go.Proofs
attribute [local irreducible] stepI
def c_culletlaw04_Rings_mul : C := .seq (.ops [⟨0, (some 4), none, .box 25 (.t 0), []⟩, ⟨1, (some 8), none, .mov (.c (.slice none 0 0)), []⟩, ⟨2, (some 9), none, .mov (.c (.int .i64 0)), []⟩]) (.seq (.seq (.ops [⟨0, (some 14), none, .mov (.t 1), []⟩]) (.ite (.t 14) (.seq (.dops [⟨0, (some 16), none, .fad 1 (.t 4), []⟩, ⟨1, (some 17), none, .ld (.t 16), []⟩, ⟨2, (some 18), none, .mov (.t 2), []⟩, ⟨3, (some 19), none, .call (.c (.func (.func 38) #[] #[])) [.t 18], [1]⟩, ⟨4, (some 20), none, .mov (.t 3), []⟩, ⟨5, (some 21), none, .call (.c (.func (.func 38) #[] #[])) [.t 20], [1]⟩, ⟨6, (some 22), none, .call (.c (.func (.func 37) #[] #[])) [.t 17, .t 19, .t 21], []⟩, ⟨7, (some 15), none, .mov (.t 22), []⟩, ⟨8, (some 23), none, .ext (.t 15) 0, []⟩, ⟨9, (some 24), none, .ext (.t 15) 1, []⟩, ⟨10, (some 10), none, .mov (.t 23), []⟩, ⟨11, (some 11), none, .mov (.t 24), []⟩]) (.seq (.ops [⟨0, (some 25), none, .mov (.t 10), []⟩, ⟨1, (some 26), none, .mov (.t 11), []⟩, ⟨2, (some 8), none, .mov (.t 25), []⟩, ⟨3, (some 9), none, .mov (.t 26), []⟩]) .ret)) .skip)) (.seq (.dops [⟨0, (some 28), none, .fad 0 (.t 4), []⟩, ⟨1, (some 29), none, .ld (.t 28), []⟩, ⟨2, (some 30), none, .mov (.t 2), []⟩, ⟨3, (some 31), none, .call (.c (.func (.func 40) #[] #[])) [.t 30], [1]⟩, ⟨4, (some 32), none, .mov (.t 3), []⟩, ⟨5, (some 33), none, .call (.c (.func (.func 40) #[] #[])) [.t 32], [1]⟩, ⟨6, (some 34), none, .call (.c (.func (.func 39) #[] #[])) [.t 29, .t 31, .t 33], []⟩, ⟨7, (some 27), none, .mov (.t 34), []⟩, ⟨8, (some 35), none, .ext (.t 27) 0, []⟩, ⟨9, (some 36), none, .ext (.t 27) 1, []⟩, ⟨10, (some 12), none, .mov (.t 35), []⟩, ⟨11, (some 13), none, .mov (.t 36), []⟩]) (.seq (.ops [⟨0, (some 37), none, .mov (.t 12), []⟩, ⟨1, (some 38), none, .call (.c (.func (.func 41) #[] #[])) [.t 37], []⟩, ⟨2, (some 39), none, .mov (.t 13), []⟩, ⟨3, (some 8), none, .mov (.t 38), []⟩, ⟨4, (some 9), none, .mov (.t 39), []⟩]) .ret)))
attribute [irreducible] c_culletlaw04_Rings_mul
theorem run_culletlaw04_Rings_mul {args : List Value} {w : World} {K : Value → World → Prop} (hn : args.length ≤ 40) (h : WP Try.prog c_culletlaw04_Rings_mul (endQ [.t 8, .t 9] K) (initT args) w) : CallV Try.prog 13 args w K :=
  call_of follows Try.func13 (by kernel_rfl) (by kernel_rfl) hn h
def c_culletlaw04_Rings_eval : C := .seq (.ops [⟨0, (some 4), none, .box 25 (.t 0), []⟩, ⟨1, (some 8), none, .mov (.c (.int .u16 0)), []⟩]) (.seq (.seq (.ops [⟨0, (some 9), none, .mov (.t 1), []⟩]) (.ite (.t 9) (.seq (.dops [⟨0, (some 10), none, .fad 1 (.t 4), []⟩, ⟨1, (some 11), none, .ld (.t 10), []⟩, ⟨2, (some 12), none, .mov (.t 2), []⟩, ⟨3, (some 13), none, .call (.c (.func (.func 38) #[] #[])) [.t 12], [1]⟩, ⟨4, (some 14), none, .mov (.t 3), []⟩, ⟨5, (some 15), none, .call (.c (.func (.func 53) #[] #[])) [.t 11, .t 13, .t 14], []⟩, ⟨6, (some 8), none, .mov (.t 15), []⟩]) .ret) .skip)) (.seq (.dops [⟨0, (some 16), none, .fad 0 (.t 4), []⟩, ⟨1, (some 17), none, .ld (.t 16), []⟩, ⟨2, (some 18), none, .mov (.t 2), []⟩, ⟨3, (some 19), none, .call (.c (.func (.func 40) #[] #[])) [.t 18], [1]⟩, ⟨4, (some 20), none, .mov (.t 3), []⟩, ⟨5, (some 21), none, .cnv .u8 (.t 20), []⟩, ⟨6, (some 22), none, .call (.c (.func (.func 54) #[] #[])) [.t 17, .t 19, .t 21], []⟩, ⟨7, (some 23), none, .cnv .u16 (.t 22), []⟩, ⟨8, (some 8), none, .mov (.t 23), []⟩]) .ret))
attribute [irreducible] c_culletlaw04_Rings_eval
theorem run_culletlaw04_Rings_eval {args : List Value} {w : World} {K : Value → World → Prop} (hn : args.length ≤ 24) (h : WP Try.prog c_culletlaw04_Rings_eval (endQ [.t 8] K) (initT args) w) : CallV Try.prog 25 args w K :=
  call_of follows Try.func25 (by kernel_rfl) (by kernel_rfl) hn h
end Go.Proofs.Ytcdagkcchfibjaa.Fw
namespace Go.Proofs.Ytcdagkcchfibjaa.Fw
open Go Go.Fw
theorem culletlaw04_Rings_mul_w_spec (w : World) (rb rw s1 s2 : Value) (L1 L2 : List (El 16)) (hb : Ring_b w rb) (hw : Ring_w w rw) (h1 : Sl w s1 L1) (h2 : Sl w s2 L2) (b1 : L1.length ≤ 70368744175616) (b2 : L2.length ≤ 70368744175616) :
    CallV Try.prog 13 [.agg #[rb, rw], .bool true, s1, s2] w fun v w' => RowKit.Below w.heap.size w w' ∧ ((L1.length ≤ 1024 ∧ L2.length ≤ 1024 ∧ ∃ s m, v = .tuple #[s, .int .i64 0] ∧ Ow w.heap.size w' s (m.map em16) ∧ tr m = m ∧ co m = co (L1.map lo16) * co (L2.map lo16) ∧ m.length ≤ (L1.map lo16).length + (L2.map lo16).length) ∨ (¬ (L1.length ≤ 1024 ∧ L2.length ≤ 1024) ∧ ∃ s, v = .tuple #[s, .int .i64 5] ∧ Ow w.heap.size w' s ([] : List (El 16)))) := by
  refine run_culletlaw04_Rings_mul (by simp) ?_
  simp only [c_culletlaw04_Rings_mul, WS, List.getElem_cons_zero, List.getElem_cons_succ, Option.isNone_some, Option.isNone_none, List.getD_cons_zero, List.getD_cons_succ, I.at, atL, atO, atP, evp, evs, retV, ↓reduceIte, Nat.reduceEqDiff, reduceCtorEq]
  refine X_box fun b w1 hr hlb hB1 => ?_
  have hr : Row w1 b [rb, rw] := hr
  simp only [WS, List.getElem_cons_zero, List.getElem_cons_succ, Option.isNone_some, Option.isNone_none, List.getD_cons_zero, List.getD_cons_succ, I.at, atL, atO, atP, evp, evs, retV, ↓reduceIte, Nat.reduceEqDiff, reduceCtorEq]
  refine WP_dops ?_
  have hd0 := hr.drew
  have B0 : RowKit.Below w.heap.size w w1.drew := hB1.trans ((bel_drew w1).mono hB1.size)
  simp only [ES, List.mem_cons, List.not_mem_nil, implies_true, forall_const, WS, List.getElem_cons_zero, List.getElem_cons_succ, Option.isNone_some, Option.isNone_none, List.getD_cons_zero, List.getD_cons_succ, I.at, atL, atO, atP, evp, evs, retV, ↓reduceIte, Nat.reduceEqDiff, reduceCtorEq, addr_add0, Nat.add_zero, Nat.zero_add, hd0.Eld (show 1 < [rb, rw].length by simp)]
  refine E_call0 ((culletlaw04_twin_spec w1.drew s1 L1 (h1.up B0) b1).mono ?_)
  rintro a1 v1 ⟨o1, c1⟩
  have B1 : RowKit.Below w.heap.size w v1 := B0.trans (c1.mono B0.size)
  have r1 := hd0.up c1
  have z1 : Fw.sees Try.prog (.ld (.c (.pointer (some ⟨b, 1, none⟩)))) v1 rw = True := r1.sees (o := 1) (by simp) Try.prog
  simp only [ES, List.mem_cons, List.not_mem_nil, implies_true, forall_const, WS, List.getElem_cons_zero, List.getElem_cons_succ, Option.isNone_some, Option.isNone_none, List.getD_cons_zero, List.getD_cons_succ, I.at, atL, atO, atP, evp, evs, retV, ↓reduceIte, Nat.reduceEqDiff, reduceCtorEq, z1]
  refine E_call0 ((culletlaw04_twin_spec v1 s2 L2 (h2.up B1) b2).mono ?_)
  rintro a2 v2 ⟨o2, c2⟩
  have B2 : RowKit.Below w.heap.size w v2 := B1.trans (c2.mono B1.size)
  have r2 := r1.up c2
  have z2 : Fw.sees Try.prog (.ld (.c (.pointer (some ⟨b, 1, none⟩)))) v2 rw = True := r2.sees (o := 1) (by simp) Try.prog
  have o1 := o1.up c2
  simp only [ES, List.mem_cons, List.not_mem_nil, implies_true, forall_const, WS, List.getElem_cons_zero, List.getElem_cons_succ, Option.isNone_some, Option.isNone_none, List.getD_cons_zero, List.getD_cons_succ, I.at, atL, atO, atP, evp, evs, retV, ↓reduceIte, Nat.reduceEqDiff, reduceCtorEq, z2]
  refine E_call0 ((polys_Ring_w_Mul_spec v2 rw a1 a2 L1 L2 (hw.up B2) o1.sl o2.sl b1 b2).mono ?_)
  rintro v w9 ⟨B9, ⟨g0, g1, s, m, rfl, om, q0, q1, q2⟩ | ⟨hn, rfl⟩⟩
  · simp only [ES, List.mem_cons, List.not_mem_nil, implies_true, forall_const, WS, List.getElem_cons_zero, List.getElem_cons_succ, Option.isNone_some, Option.isNone_none, List.getD_cons_zero, List.getD_cons_succ, I.at, atL, atO, atP, evp, evs, retV, ↓reduceIte, Nat.reduceEqDiff, reduceCtorEq]
    refine ⟨B2.trans (B9.mono B2.size), Or.inl ⟨g0, g1, s, m, rfl, by rw [em16_map]; exact om.mono B2.size, ?_⟩⟩
    simp only [lo16_map]
    exact ⟨q0, q1, q2⟩
  · simp only [ES, List.mem_cons, List.not_mem_nil, implies_true, forall_const, WS, List.getElem_cons_zero, List.getElem_cons_succ, Option.isNone_some, Option.isNone_none, List.getD_cons_zero, List.getD_cons_succ, I.at, atL, atO, atP, evp, evs, retV, ↓reduceIte, Nat.reduceEqDiff, reduceCtorEq]
    exact ⟨B2.trans (B9.mono B2.size), Or.inr ⟨hn, _, rfl, Ow.nil _ _⟩⟩
theorem culletlaw04_Rings_mul_b_spec (w : World) (rb rw s1 s2 : Value) (L1 L2 : List (El 16)) (hb : Ring_b w rb) (hw : Ring_w w rw) (h1 : Sl w s1 L1) (h2 : Sl w s2 L2) (b1 : L1.length ≤ 70368744175616) (b2 : L2.length ≤ 70368744175616) :
    CallV Try.prog 13 [.agg #[rb, rw], .bool false, s1, s2] w fun v w' => RowKit.Below w.heap.size w w' ∧ ((L1.length ≤ 1024 ∧ L2.length ≤ 1024 ∧ ∃ s m, v = .tuple #[s, .int .i64 0] ∧ Ow w.heap.size w' s (m.map em8) ∧ tr m = m ∧ co m = co (L1.map lo8) * co (L2.map lo8) ∧ m.length ≤ (L1.map lo8).length + (L2.map lo8).length) ∨ (¬ (L1.length ≤ 1024 ∧ L2.length ≤ 1024) ∧ ∃ s, v = .tuple #[s, .int .i64 5] ∧ Ow w.heap.size w' s ([] : List (El 16)))) := by
  refine run_culletlaw04_Rings_mul (by simp) ?_
  simp only [c_culletlaw04_Rings_mul, WS, List.getElem_cons_zero, List.getElem_cons_succ, Option.isNone_some, Option.isNone_none, List.getD_cons_zero, List.getD_cons_succ, I.at, atL, atO, atP, evp, evs, retV, ↓reduceIte, Nat.reduceEqDiff, reduceCtorEq]
  refine X_box fun b w1 hr hlb hB1 => ?_
  have hr : Row w1 b [rb, rw] := hr
  simp only [WS, List.getElem_cons_zero, List.getElem_cons_succ, Option.isNone_some, Option.isNone_none, List.getD_cons_zero, List.getD_cons_succ, I.at, atL, atO, atP, evp, evs, retV, ↓reduceIte, Nat.reduceEqDiff, reduceCtorEq]
  refine WP_dops ?_
  have hd0 := hr.drew
  have B0 : RowKit.Below w.heap.size w w1.drew := hB1.trans ((bel_drew w1).mono hB1.size)
  simp only [ES, List.mem_cons, List.not_mem_nil, implies_true, forall_const, WS, List.getElem_cons_zero, List.getElem_cons_succ, Option.isNone_some, Option.isNone_none, List.getD_cons_zero, List.getD_cons_succ, I.at, atL, atO, atP, evp, evs, retV, ↓reduceIte, Nat.reduceEqDiff, reduceCtorEq, addr_add0, Nat.add_zero, Nat.zero_add, hd0.Eld (show 0 < [rb, rw].length by simp)]
  refine E_call0 ((culletlaw04_low_spec w1.drew s1 L1 (h1.up B0) b1).mono ?_)
  rintro a1 v1 ⟨o1, c1⟩
  have B1 : RowKit.Below w.heap.size w v1 := B0.trans (c1.mono B0.size)
  have r1 := hd0.up c1
  have z1 : Fw.sees Try.prog (.ld (.c (.pointer (some ⟨b, 0, none⟩)))) v1 rb = True := r1.sees (o := 0) (by simp) Try.prog
  simp only [ES, List.mem_cons, List.not_mem_nil, implies_true, forall_const, WS, List.getElem_cons_zero, List.getElem_cons_succ, Option.isNone_some, Option.isNone_none, List.getD_cons_zero, List.getD_cons_succ, I.at, atL, atO, atP, evp, evs, retV, ↓reduceIte, Nat.reduceEqDiff, reduceCtorEq, z1]
  refine E_call0 ((culletlaw04_low_spec v1 s2 L2 (h2.up B1) b2).mono ?_)
  rintro a2 v2 ⟨o2, c2⟩
  have B2 : RowKit.Below w.heap.size w v2 := B1.trans (c2.mono B1.size)
  have r2 := r1.up c2
  have z2 : Fw.sees Try.prog (.ld (.c (.pointer (some ⟨b, 0, none⟩)))) v2 rb = True := r2.sees (o := 0) (by simp) Try.prog
  have o1 := o1.up c2
  simp only [ES, List.mem_cons, List.not_mem_nil, implies_true, forall_const, WS, List.getElem_cons_zero, List.getElem_cons_succ, Option.isNone_some, Option.isNone_none, List.getD_cons_zero, List.getD_cons_succ, I.at, atL, atO, atP, evp, evs, retV, ↓reduceIte, Nat.reduceEqDiff, reduceCtorEq, z2]
  refine E_call0 ((polys_Ring_b_Mul_spec v2 rb a1 a2 (L1.map lo8) (L2.map lo8) (hb.up B2) o1.sl o2.sl (by rw [List.length_map]; exact b1) (by rw [List.length_map]; exact b2)).mono ?_)
  rintro v w9 ⟨B9, ⟨g0, g1, s, m, rfl, om, q0, q1, q2⟩ | ⟨hn, rfl⟩⟩
  · simp only [ES, List.mem_cons, List.not_mem_nil, implies_true, forall_const, WS, List.getElem_cons_zero, List.getElem_cons_succ, Option.isNone_some, Option.isNone_none, List.getD_cons_zero, List.getD_cons_succ, I.at, atL, atO, atP, evp, evs, retV, ↓reduceIte, Nat.reduceEqDiff, reduceCtorEq]
    refine X_call0 ((culletlaw04_up_spec w9 _ m om.sl (by simp only [List.length_map, List.length_nil] at *; omega)).mono ?_)
    rintro v2 w10 ⟨o10, B10⟩
    simp only [WS, List.getElem_cons_zero, List.getElem_cons_succ, Option.isNone_some, Option.isNone_none, List.getD_cons_zero, List.getD_cons_succ, I.at, atL, atO, atP, evp, evs, retV, ↓reduceIte, Nat.reduceEqDiff, reduceCtorEq]
    simp only [List.length_map] at *
    exact ⟨(B2.trans (B9.mono B2.size)).trans (B10.mono (Nat.le_trans B2.size B9.size)), Or.inl ⟨g0, g1, v2, m, rfl, o10.mono (Nat.le_trans B2.size B9.size), q0, q1, q2⟩⟩
  · simp only [ES, List.mem_cons, List.not_mem_nil, implies_true, forall_const, WS, List.getElem_cons_zero, List.getElem_cons_succ, Option.isNone_some, Option.isNone_none, List.getD_cons_zero, List.getD_cons_succ, I.at, atL, atO, atP, evp, evs, retV, ↓reduceIte, Nat.reduceEqDiff, reduceCtorEq]
    refine X_call0 ((culletlaw04_up_spec w9 _ ([] : List (El 8)) (Sl.nil w9) (by simp only [List.length_map, List.length_nil] at *; omega)).mono ?_)
    rintro v2 w10 ⟨o10, B10⟩
    simp only [WS, List.getElem_cons_zero, List.getElem_cons_succ, Option.isNone_some, Option.isNone_none, List.getD_cons_zero, List.getD_cons_succ, I.at, atL, atO, atP, evp, evs, retV, ↓reduceIte, Nat.reduceEqDiff, reduceCtorEq]
    simp only [List.length_map] at *
    exact ⟨(B2.trans (B9.mono B2.size)).trans (B10.mono (Nat.le_trans B2.size B9.size)), Or.inr ⟨hn, v2, rfl, o10.mono (Nat.le_trans B2.size B9.size)⟩⟩
theorem culletlaw04_Rings_eval_b_spec (w : World) (rb rw s1 : Value) (L1 : List (El 16)) (x : El 8) (hb : Ring_b w rb) (hw : Ring_w w rw) (h1 : Sl w s1 L1) (b1 : L1.length ≤ 70368744175616) :
    CallV Try.prog 25 [.agg #[rb, rw], .bool false, s1, .int .u16 ((em8 x).v.toNat : Int)] w fun v w' => RowKit.Below w.heap.size w w' ∧ v = .int .u16 ((em8 (evl (L1.map lo8) x)).v.toNat : Int) := by
  refine run_culletlaw04_Rings_eval (by simp) ?_
  simp only [c_culletlaw04_Rings_eval, WS, List.getElem_cons_zero, List.getElem_cons_succ, Option.isNone_some, Option.isNone_none, List.getD_cons_zero, List.getD_cons_succ, I.at, atL, atO, atP, evp, evs, retV, ↓reduceIte, Nat.reduceEqDiff, reduceCtorEq]
  refine X_box fun b w1 hr hlb hB1 => ?_
  have hr : Row w1 b [rb, rw] := hr
  simp only [WS, List.getElem_cons_zero, List.getElem_cons_succ, Option.isNone_some, Option.isNone_none, List.getD_cons_zero, List.getD_cons_succ, I.at, atL, atO, atP, evp, evs, retV, ↓reduceIte, Nat.reduceEqDiff, reduceCtorEq]
  refine WP_dops ?_
  have hd0 := hr.drew
  have B0 : RowKit.Below w.heap.size w w1.drew := hB1.trans ((bel_drew w1).mono hB1.size)
  simp only [ES, List.mem_cons, List.not_mem_nil, implies_true, forall_const, WS, List.getElem_cons_zero, List.getElem_cons_succ, Option.isNone_some, Option.isNone_none, List.getD_cons_zero, List.getD_cons_succ, I.at, atL, atO, atP, evp, evs, retV, ↓reduceIte, Nat.reduceEqDiff, reduceCtorEq, addr_add0, Nat.add_zero, Nat.zero_add, hd0.Eld (show 0 < [rb, rw].length by simp)]
  refine E_call0 ((culletlaw04_low_spec w1.drew s1 L1 (h1.up B0) b1).mono ?_)
  rintro a1 v1 ⟨o1, c1⟩
  have B1 : RowKit.Below w.heap.size w v1 := B0.trans (c1.mono B0.size)
  have r1 := hd0.up c1
  have z1 : Fw.sees Try.prog (.ld (.c (.pointer (some ⟨b, 0, none⟩)))) v1 rb = True := r1.sees (o := 0) (by simp) Try.prog
  simp only [ES, List.mem_cons, List.not_mem_nil, implies_true, forall_const, WS, List.getElem_cons_zero, List.getElem_cons_succ, Option.isNone_some, Option.isNone_none, List.getD_cons_zero, List.getD_cons_succ, I.at, atL, atO, atP, evp, evs, retV, ↓reduceIte, Nat.reduceEqDiff, reduceCtorEq, z1, em8_nat, wrap_u8 _ (show x.v.toNat < 256 from x.v.isLt)]
  refine E_call0 ((polys_Ring_b_Eval_spec v1 rb a1 (L1.map lo8) x (hb.up B1) o1.sl (by rw [List.length_map]; exact b1)).mono ?_)
  rintro v w9 ⟨rfl, B9⟩
  simp only [ES, List.mem_cons, List.not_mem_nil, implies_true, forall_const, WS, List.getElem_cons_zero, List.getElem_cons_succ, Option.isNone_some, Option.isNone_none, List.getD_cons_zero, List.getD_cons_succ, I.at, atL, atO, atP, evp, evs, retV, ↓reduceIte, Nat.reduceEqDiff, reduceCtorEq]
  have := (evl (L1.map lo8) x).v.isLt
  simp only [ES, List.mem_cons, List.not_mem_nil, implies_true, forall_const, WS, List.getElem_cons_zero, List.getElem_cons_succ, Option.isNone_some, Option.isNone_none, List.getD_cons_zero, List.getD_cons_succ, I.at, atL, atO, atP, evp, evs, retV, ↓reduceIte, Nat.reduceEqDiff, reduceCtorEq, em8_nat, wrap_u16 _ (show (evl (L1.map lo8) x).v.toNat < 65536 by omega)]
  exact B1.trans (B9.mono B1.size)
end Go.Proofs.Ytcdagkcchfibjaa.Fw
