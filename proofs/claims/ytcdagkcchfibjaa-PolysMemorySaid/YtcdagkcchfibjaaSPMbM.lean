import Derived.Test.YtcdagkcchfibjaaProg
import Derived.Test.YtcdagkcchfibjaaFwTM
import Derived.Test.YtcdagkcchfibjaaSPMaM
set_option linter.all false
set_option linter.unusedVariables false
set_option linter.unusedSimpArgs false
set_option maxRecDepth 100000
set_option maxHeartbeats 1000000
namespace Go.Proofs.Ytcdagkcchfibjaa.Fw
open Go Go.Fw Go.Proofs
attribute [local irreducible] stepI
def c_culletlaw04_apart16 : C := .seq (.ops [⟨0, (some 2), none, .mov (.c (.bool false)), []⟩]) (.seq (.ops [⟨0, (some 11), none, .mov (.t 0), []⟩, ⟨1, (some 12), none, .len (.t 11), []⟩, ⟨2, (some 13), none, .mks 27 24 [.slice none 0 0] (.t 12) (.t 12), []⟩, ⟨3, (some 3), none, .mov (.t 13), []⟩]) (.seq (.seq (.ops [⟨0, (some 4), none, .mov (.c (.int .i64 0)), []⟩]) (.block 0 (.loop (.seq (.seq (.ops [⟨0, (some 14), none, .mov (.t 4), []⟩, ⟨1, (some 15), none, .mov (.t 0), []⟩, ⟨2, (some 16), none, .len (.t 15), []⟩, ⟨3, (some 17), none, .bin .lss (.t 14) (.t 16), []⟩]) (.ite (.t 17) .skip (.exit 0))) (.seq (.block 1 (.seq (.seq (.ops [⟨0, (some 5), none, .mov (.c (.int .i64 0)), []⟩]) (.block 2 (.loop (.seq (.seq (.ops [⟨0, (some 20), none, .mov (.t 5), []⟩, ⟨1, (some 21), none, .mov (.t 0), []⟩, ⟨2, (some 22), none, .mov (.t 4), []⟩, ⟨3, (some 23), none, .ixs 1 (.t 21) (.t 22), []⟩, ⟨4, (some 24), none, .ld (.t 23), []⟩, ⟨5, (some 25), none, .len (.t 24), []⟩, ⟨6, (some 26), none, .bin .lss (.t 20) (.t 25), []⟩]) (.ite (.t 26) .skip (.exit 2))) (.seq (.block 3 (.ops [⟨0, (some 29), none, .mov (.t 0), []⟩, ⟨1, (some 30), none, .mov (.t 4), []⟩, ⟨2, (some 31), none, .ixs 1 (.t 29) (.t 30), []⟩, ⟨3, (some 32), none, .ld (.t 31), []⟩, ⟨4, (some 33), none, .mov (.t 5), []⟩, ⟨5, (some 34), none, .mov (.t 4), []⟩, ⟨6, (some 35), none, .bin .mul (.c (.int .i64 7)) (.t 34), []⟩, ⟨7, (some 36), none, .bin .add (.c (.int .i64 10)) (.t 35), []⟩, ⟨8, (some 37), none, .cnv .u16 (.t 36), []⟩, ⟨9, (some 38), none, .ixs 1 (.t 32) (.t 33), []⟩, ⟨10, none, none, .st (.t 38) (.t 37), []⟩])) (.ops [⟨0, (some 27), none, .mov (.t 5), []⟩, ⟨1, (some 28), none, .bin .add (.t 27) (.c (.int .i64 1)), []⟩, ⟨2, (some 5), none, .mov (.t 28), []⟩])))))) (.ops [⟨0, (some 39), none, .mov (.t 3), []⟩, ⟨1, (some 40), none, .mov (.t 4), []⟩, ⟨2, (some 41), none, .mov (.t 0), []⟩, ⟨3, (some 42), none, .mov (.t 4), []⟩, ⟨4, (some 43), none, .ixs 1 (.t 41) (.t 42), []⟩, ⟨5, (some 44), none, .ld (.t 43), []⟩, ⟨6, (some 45), none, .ixs 1 (.t 39) (.t 40), []⟩, ⟨7, none, none, .st (.t 45) (.t 44), []⟩]))) (.ops [⟨0, (some 18), none, .mov (.t 4), []⟩, ⟨1, (some 19), none, .bin .add (.t 18) (.c (.int .i64 1)), []⟩, ⟨2, (some 4), none, .mov (.t 19), []⟩])))))) (.seq (.seq (.ops [⟨0, (some 6), none, .mov (.c (.int .i64 0)), []⟩]) (.block 4 (.loop (.seq (.seq (.ops [⟨0, (some 46), none, .mov (.t 6), []⟩, ⟨1, (some 47), none, .mov (.t 0), []⟩, ⟨2, (some 48), none, .len (.t 47), []⟩, ⟨3, (some 49), none, .bin .lss (.t 46) (.t 48), []⟩]) (.ite (.t 49) .skip (.exit 4))) (.seq (.block 5 (.seq (.ops [⟨0, (some 7), none, .mov (.c (.int .i64 0)), []⟩]) (.block 6 (.loop (.seq (.seq (.ops [⟨0, (some 52), none, .mov (.t 7), []⟩, ⟨1, (some 53), none, .bin .lss (.t 52) (.c (.int .i64 70)), []⟩]) (.ite (.t 53) .skip (.exit 6))) (.seq (.block 7 (.ops [⟨0, (some 56), none, .mov (.t 3), []⟩, ⟨1, (some 57), none, .mov (.t 6), []⟩, ⟨2, (some 58), none, .mov (.t 3), []⟩, ⟨3, (some 59), none, .mov (.t 6), []⟩, ⟨4, (some 60), none, .ixs 1 (.t 58) (.t 59), []⟩, ⟨5, (some 61), none, .ld (.t 60), []⟩, ⟨6, (some 62), none, .mov (.t 6), []⟩, ⟨7, (some 63), none, .bin .mul (.c (.int .i64 7)) (.t 62), []⟩, ⟨8, (some 64), none, .bin .add (.c (.int .i64 11)) (.t 63), []⟩, ⟨9, (some 65), none, .cnv .u16 (.t 64), []⟩, ⟨10, (some 66), none, .bsl 28 1 [.int .u16 0] [(0, (1, .t 65))], []⟩, ⟨11, (some 67), none, .app 28 2 [.int .u16 0] (.t 61) (.t 66), []⟩, ⟨12, (some 68), none, .ixs 1 (.t 56) (.t 57), []⟩, ⟨13, none, none, .st (.t 68) (.t 67), []⟩])) (.ops [⟨0, (some 54), none, .mov (.t 7), []⟩, ⟨1, (some 55), none, .bin .add (.t 54) (.c (.int .i64 1)), []⟩, ⟨2, (some 7), none, .mov (.t 55), []⟩]))))))) (.ops [⟨0, (some 50), none, .mov (.t 6), []⟩, ⟨1, (some 51), none, .bin .add (.t 50) (.c (.int .i64 1)), []⟩, ⟨2, (some 6), none, .mov (.t 51), []⟩])))))) (.seq (.seq (.ops [⟨0, (some 8), none, .mov (.c (.int .i64 0)), []⟩]) (.block 8 (.loop (.seq (.seq (.ops [⟨0, (some 69), none, .mov (.t 8), []⟩, ⟨1, (some 70), none, .mov (.t 0), []⟩, ⟨2, (some 71), none, .len (.t 70), []⟩, ⟨3, (some 72), none, .bin .lss (.t 69) (.t 71), []⟩]) (.ite (.t 72) .skip (.exit 8))) (.seq (.block 9 (.seq (.seq (.ops [⟨0, (some 9), none, .mov (.c (.int .i64 0)), []⟩]) (.block 10 (.loop (.seq (.seq (.ops [⟨0, (some 75), none, .mov (.t 9), []⟩, ⟨1, (some 76), none, .mov (.t 0), []⟩, ⟨2, (some 77), none, .mov (.t 8), []⟩, ⟨3, (some 78), none, .ixs 1 (.t 76) (.t 77), []⟩, ⟨4, (some 79), none, .ld (.t 78), []⟩, ⟨5, (some 80), none, .len (.t 79), []⟩, ⟨6, (some 81), none, .bin .lss (.t 75) (.t 80), []⟩]) (.ite (.t 81) .skip (.exit 10))) (.seq (.block 11 (.seq (.ops [⟨0, (some 84), none, .mov (.t 0), []⟩, ⟨1, (some 85), none, .mov (.t 8), []⟩, ⟨2, (some 86), none, .ixs 1 (.t 84) (.t 85), []⟩, ⟨3, (some 87), none, .ld (.t 86), []⟩, ⟨4, (some 88), none, .mov (.t 9), []⟩, ⟨5, (some 89), none, .ixs 1 (.t 87) (.t 88), []⟩, ⟨6, (some 90), none, .ld (.t 89), []⟩, ⟨7, (some 91), none, .mov (.t 8), []⟩, ⟨8, (some 92), none, .bin .mul (.c (.int .i64 7)) (.t 91), []⟩, ⟨9, (some 93), none, .bin .add (.c (.int .i64 10)) (.t 92), []⟩, ⟨10, (some 94), none, .cnv .u16 (.t 93), []⟩, ⟨11, (some 95), none, .bin .neq (.t 90) (.t 94), []⟩, ⟨12, (some 96), none, .mov (.t 95), []⟩, ⟨13, (some 97), (some (96, false)), .mov (.t 3), []⟩, ⟨14, (some 98), (some (96, false)), .mov (.t 8), []⟩, ⟨15, (some 99), (some (96, false)), .ixs 1 (.t 97) (.t 98), []⟩, ⟨16, (some 100), (some (96, false)), .ld (.t 99), []⟩, ⟨17, (some 101), (some (96, false)), .mov (.t 9), []⟩, ⟨18, (some 102), (some (96, false)), .ixs 1 (.t 100) (.t 101), []⟩, ⟨19, (some 103), (some (96, false)), .ld (.t 102), []⟩, ⟨20, (some 104), (some (96, false)), .mov (.t 8), []⟩, ⟨21, (some 105), (some (96, false)), .bin .mul (.c (.int .i64 7)) (.t 104), []⟩, ⟨22, (some 106), (some (96, false)), .bin .add (.c (.int .i64 10)) (.t 105), []⟩, ⟨23, (some 107), (some (96, false)), .cnv .u16 (.t 106), []⟩, ⟨24, (some 108), (some (96, false)), .bin .neq (.t 103) (.t 107), []⟩, ⟨25, (some 109), none, .pick (.t 96) (.c (.bool true)) (.t 108), []⟩]) (.ite (.t 109) (.seq (.ops [⟨0, (some 2), none, .mov (.c (.bool false)), []⟩]) .ret) .skip))) (.ops [⟨0, (some 82), none, .mov (.t 9), []⟩, ⟨1, (some 83), none, .bin .add (.t 82) (.c (.int .i64 1)), []⟩, ⟨2, (some 9), none, .mov (.t 83), []⟩])))))) (.seq (.ops [⟨0, (some 110), none, .mov (.t 0), []⟩, ⟨1, (some 111), none, .mov (.t 8), []⟩, ⟨2, (some 112), none, .ixs 1 (.t 110) (.t 111), []⟩, ⟨3, (some 113), none, .ld (.t 112), []⟩, ⟨4, (some 114), none, .len (.t 113), []⟩, ⟨5, (some 10), none, .mov (.t 114), []⟩]) (.block 12 (.loop (.seq (.seq (.ops [⟨0, (some 115), none, .mov (.t 10), []⟩, ⟨1, (some 116), none, .mov (.t 3), []⟩, ⟨2, (some 117), none, .mov (.t 8), []⟩, ⟨3, (some 118), none, .ixs 1 (.t 116) (.t 117), []⟩, ⟨4, (some 119), none, .ld (.t 118), []⟩, ⟨5, (some 120), none, .len (.t 119), []⟩, ⟨6, (some 121), none, .bin .lss (.t 115) (.t 120), []⟩]) (.ite (.t 121) .skip (.exit 12))) (.seq (.block 13 (.seq (.ops [⟨0, (some 124), none, .mov (.t 3), []⟩, ⟨1, (some 125), none, .mov (.t 8), []⟩, ⟨2, (some 126), none, .ixs 1 (.t 124) (.t 125), []⟩, ⟨3, (some 127), none, .ld (.t 126), []⟩, ⟨4, (some 128), none, .mov (.t 10), []⟩, ⟨5, (some 129), none, .ixs 1 (.t 127) (.t 128), []⟩, ⟨6, (some 130), none, .ld (.t 129), []⟩, ⟨7, (some 131), none, .mov (.t 8), []⟩, ⟨8, (some 132), none, .bin .mul (.c (.int .i64 7)) (.t 131), []⟩, ⟨9, (some 133), none, .bin .add (.c (.int .i64 11)) (.t 132), []⟩, ⟨10, (some 134), none, .cnv .u16 (.t 133), []⟩, ⟨11, (some 135), none, .bin .neq (.t 130) (.t 134), []⟩]) (.ite (.t 135) (.seq (.ops [⟨0, (some 2), none, .mov (.c (.bool false)), []⟩]) .ret) .skip))) (.ops [⟨0, (some 122), none, .mov (.t 10), []⟩, ⟨1, (some 123), none, .bin .add (.t 122) (.c (.int .i64 1)), []⟩, ⟨2, (some 10), none, .mov (.t 123), []⟩])))))))) (.ops [⟨0, (some 73), none, .mov (.t 8), []⟩, ⟨1, (some 74), none, .bin .add (.t 73) (.c (.int .i64 1)), []⟩, ⟨2, (some 8), none, .mov (.t 74), []⟩])))))) (.seq (.ops [⟨0, (some 2), none, .mov (.c (.bool true)), []⟩]) .ret)))))
attribute [irreducible] c_culletlaw04_apart16
theorem run_culletlaw04_apart16 {args : List Value} {w : World} {K : Value → World → Prop} (hn : args.length ≤ 136) (h : WP Try.prog c_culletlaw04_apart16 (endQ [.t 2] K) (initT args) w) : CallV Try.prog 70 args w K :=
  call_of follows Try.func70 (by kernel_rfl) (by kernel_rfl) hn h
def c_culletlaw04_apart8 : C := .seq (.ops [⟨0, (some 2), none, .mov (.c (.bool false)), []⟩]) (.seq (.ops [⟨0, (some 11), none, .mov (.t 0), []⟩, ⟨1, (some 12), none, .len (.t 11), []⟩, ⟨2, (some 13), none, .mks 57 24 [.slice none 0 0] (.t 12) (.t 12), []⟩, ⟨3, (some 3), none, .mov (.t 13), []⟩]) (.seq (.seq (.ops [⟨0, (some 4), none, .mov (.c (.int .i64 0)), []⟩]) (.block 0 (.loop (.seq (.seq (.ops [⟨0, (some 14), none, .mov (.t 4), []⟩, ⟨1, (some 15), none, .mov (.t 0), []⟩, ⟨2, (some 16), none, .len (.t 15), []⟩, ⟨3, (some 17), none, .bin .lss (.t 14) (.t 16), []⟩]) (.ite (.t 17) .skip (.exit 0))) (.seq (.block 1 (.seq (.seq (.ops [⟨0, (some 5), none, .mov (.c (.int .i64 0)), []⟩]) (.block 2 (.loop (.seq (.seq (.ops [⟨0, (some 20), none, .mov (.t 5), []⟩, ⟨1, (some 21), none, .mov (.t 0), []⟩, ⟨2, (some 22), none, .mov (.t 4), []⟩, ⟨3, (some 23), none, .ixs 1 (.t 21) (.t 22), []⟩, ⟨4, (some 24), none, .ld (.t 23), []⟩, ⟨5, (some 25), none, .len (.t 24), []⟩, ⟨6, (some 26), none, .bin .lss (.t 20) (.t 25), []⟩]) (.ite (.t 26) .skip (.exit 2))) (.seq (.block 3 (.ops [⟨0, (some 29), none, .mov (.t 0), []⟩, ⟨1, (some 30), none, .mov (.t 4), []⟩, ⟨2, (some 31), none, .ixs 1 (.t 29) (.t 30), []⟩, ⟨3, (some 32), none, .ld (.t 31), []⟩, ⟨4, (some 33), none, .mov (.t 5), []⟩, ⟨5, (some 34), none, .mov (.t 4), []⟩, ⟨6, (some 35), none, .bin .mul (.c (.int .i64 7)) (.t 34), []⟩, ⟨7, (some 36), none, .bin .add (.c (.int .i64 10)) (.t 35), []⟩, ⟨8, (some 37), none, .cnv .u8 (.t 36), []⟩, ⟨9, (some 38), none, .ixs 1 (.t 32) (.t 33), []⟩, ⟨10, none, none, .st (.t 38) (.t 37), []⟩])) (.ops [⟨0, (some 27), none, .mov (.t 5), []⟩, ⟨1, (some 28), none, .bin .add (.t 27) (.c (.int .i64 1)), []⟩, ⟨2, (some 5), none, .mov (.t 28), []⟩])))))) (.ops [⟨0, (some 39), none, .mov (.t 3), []⟩, ⟨1, (some 40), none, .mov (.t 4), []⟩, ⟨2, (some 41), none, .mov (.t 0), []⟩, ⟨3, (some 42), none, .mov (.t 4), []⟩, ⟨4, (some 43), none, .ixs 1 (.t 41) (.t 42), []⟩, ⟨5, (some 44), none, .ld (.t 43), []⟩, ⟨6, (some 45), none, .ixs 1 (.t 39) (.t 40), []⟩, ⟨7, none, none, .st (.t 45) (.t 44), []⟩]))) (.ops [⟨0, (some 18), none, .mov (.t 4), []⟩, ⟨1, (some 19), none, .bin .add (.t 18) (.c (.int .i64 1)), []⟩, ⟨2, (some 4), none, .mov (.t 19), []⟩])))))) (.seq (.seq (.ops [⟨0, (some 6), none, .mov (.c (.int .i64 0)), []⟩]) (.block 4 (.loop (.seq (.seq (.ops [⟨0, (some 46), none, .mov (.t 6), []⟩, ⟨1, (some 47), none, .mov (.t 0), []⟩, ⟨2, (some 48), none, .len (.t 47), []⟩, ⟨3, (some 49), none, .bin .lss (.t 46) (.t 48), []⟩]) (.ite (.t 49) .skip (.exit 4))) (.seq (.block 5 (.seq (.ops [⟨0, (some 7), none, .mov (.c (.int .i64 0)), []⟩]) (.block 6 (.loop (.seq (.seq (.ops [⟨0, (some 52), none, .mov (.t 7), []⟩, ⟨1, (some 53), none, .bin .lss (.t 52) (.c (.int .i64 70)), []⟩]) (.ite (.t 53) .skip (.exit 6))) (.seq (.block 7 (.ops [⟨0, (some 56), none, .mov (.t 3), []⟩, ⟨1, (some 57), none, .mov (.t 6), []⟩, ⟨2, (some 58), none, .mov (.t 3), []⟩, ⟨3, (some 59), none, .mov (.t 6), []⟩, ⟨4, (some 60), none, .ixs 1 (.t 58) (.t 59), []⟩, ⟨5, (some 61), none, .ld (.t 60), []⟩, ⟨6, (some 62), none, .mov (.t 6), []⟩, ⟨7, (some 63), none, .bin .mul (.c (.int .i64 7)) (.t 62), []⟩, ⟨8, (some 64), none, .bin .add (.c (.int .i64 11)) (.t 63), []⟩, ⟨9, (some 65), none, .cnv .u8 (.t 64), []⟩, ⟨10, (some 66), none, .bsl 5 1 [.int .u8 0] [(0, (1, .t 65))], []⟩, ⟨11, (some 67), none, .app 5 1 [.int .u8 0] (.t 61) (.t 66), []⟩, ⟨12, (some 68), none, .ixs 1 (.t 56) (.t 57), []⟩, ⟨13, none, none, .st (.t 68) (.t 67), []⟩])) (.ops [⟨0, (some 54), none, .mov (.t 7), []⟩, ⟨1, (some 55), none, .bin .add (.t 54) (.c (.int .i64 1)), []⟩, ⟨2, (some 7), none, .mov (.t 55), []⟩]))))))) (.ops [⟨0, (some 50), none, .mov (.t 6), []⟩, ⟨1, (some 51), none, .bin .add (.t 50) (.c (.int .i64 1)), []⟩, ⟨2, (some 6), none, .mov (.t 51), []⟩])))))) (.seq (.seq (.ops [⟨0, (some 8), none, .mov (.c (.int .i64 0)), []⟩]) (.block 8 (.loop (.seq (.seq (.ops [⟨0, (some 69), none, .mov (.t 8), []⟩, ⟨1, (some 70), none, .mov (.t 0), []⟩, ⟨2, (some 71), none, .len (.t 70), []⟩, ⟨3, (some 72), none, .bin .lss (.t 69) (.t 71), []⟩]) (.ite (.t 72) .skip (.exit 8))) (.seq (.block 9 (.seq (.seq (.ops [⟨0, (some 9), none, .mov (.c (.int .i64 0)), []⟩]) (.block 10 (.loop (.seq (.seq (.ops [⟨0, (some 75), none, .mov (.t 9), []⟩, ⟨1, (some 76), none, .mov (.t 0), []⟩, ⟨2, (some 77), none, .mov (.t 8), []⟩, ⟨3, (some 78), none, .ixs 1 (.t 76) (.t 77), []⟩, ⟨4, (some 79), none, .ld (.t 78), []⟩, ⟨5, (some 80), none, .len (.t 79), []⟩, ⟨6, (some 81), none, .bin .lss (.t 75) (.t 80), []⟩]) (.ite (.t 81) .skip (.exit 10))) (.seq (.block 11 (.seq (.ops [⟨0, (some 84), none, .mov (.t 0), []⟩, ⟨1, (some 85), none, .mov (.t 8), []⟩, ⟨2, (some 86), none, .ixs 1 (.t 84) (.t 85), []⟩, ⟨3, (some 87), none, .ld (.t 86), []⟩, ⟨4, (some 88), none, .mov (.t 9), []⟩, ⟨5, (some 89), none, .ixs 1 (.t 87) (.t 88), []⟩, ⟨6, (some 90), none, .ld (.t 89), []⟩, ⟨7, (some 91), none, .mov (.t 8), []⟩, ⟨8, (some 92), none, .bin .mul (.c (.int .i64 7)) (.t 91), []⟩, ⟨9, (some 93), none, .bin .add (.c (.int .i64 10)) (.t 92), []⟩, ⟨10, (some 94), none, .cnv .u8 (.t 93), []⟩, ⟨11, (some 95), none, .bin .neq (.t 90) (.t 94), []⟩, ⟨12, (some 96), none, .mov (.t 95), []⟩, ⟨13, (some 97), (some (96, false)), .mov (.t 3), []⟩, ⟨14, (some 98), (some (96, false)), .mov (.t 8), []⟩, ⟨15, (some 99), (some (96, false)), .ixs 1 (.t 97) (.t 98), []⟩, ⟨16, (some 100), (some (96, false)), .ld (.t 99), []⟩, ⟨17, (some 101), (some (96, false)), .mov (.t 9), []⟩, ⟨18, (some 102), (some (96, false)), .ixs 1 (.t 100) (.t 101), []⟩, ⟨19, (some 103), (some (96, false)), .ld (.t 102), []⟩, ⟨20, (some 104), (some (96, false)), .mov (.t 8), []⟩, ⟨21, (some 105), (some (96, false)), .bin .mul (.c (.int .i64 7)) (.t 104), []⟩, ⟨22, (some 106), (some (96, false)), .bin .add (.c (.int .i64 10)) (.t 105), []⟩, ⟨23, (some 107), (some (96, false)), .cnv .u8 (.t 106), []⟩, ⟨24, (some 108), (some (96, false)), .bin .neq (.t 103) (.t 107), []⟩, ⟨25, (some 109), none, .pick (.t 96) (.c (.bool true)) (.t 108), []⟩]) (.ite (.t 109) (.seq (.ops [⟨0, (some 2), none, .mov (.c (.bool false)), []⟩]) .ret) .skip))) (.ops [⟨0, (some 82), none, .mov (.t 9), []⟩, ⟨1, (some 83), none, .bin .add (.t 82) (.c (.int .i64 1)), []⟩, ⟨2, (some 9), none, .mov (.t 83), []⟩])))))) (.seq (.ops [⟨0, (some 110), none, .mov (.t 0), []⟩, ⟨1, (some 111), none, .mov (.t 8), []⟩, ⟨2, (some 112), none, .ixs 1 (.t 110) (.t 111), []⟩, ⟨3, (some 113), none, .ld (.t 112), []⟩, ⟨4, (some 114), none, .len (.t 113), []⟩, ⟨5, (some 10), none, .mov (.t 114), []⟩]) (.block 12 (.loop (.seq (.seq (.ops [⟨0, (some 115), none, .mov (.t 10), []⟩, ⟨1, (some 116), none, .mov (.t 3), []⟩, ⟨2, (some 117), none, .mov (.t 8), []⟩, ⟨3, (some 118), none, .ixs 1 (.t 116) (.t 117), []⟩, ⟨4, (some 119), none, .ld (.t 118), []⟩, ⟨5, (some 120), none, .len (.t 119), []⟩, ⟨6, (some 121), none, .bin .lss (.t 115) (.t 120), []⟩]) (.ite (.t 121) .skip (.exit 12))) (.seq (.block 13 (.seq (.ops [⟨0, (some 124), none, .mov (.t 3), []⟩, ⟨1, (some 125), none, .mov (.t 8), []⟩, ⟨2, (some 126), none, .ixs 1 (.t 124) (.t 125), []⟩, ⟨3, (some 127), none, .ld (.t 126), []⟩, ⟨4, (some 128), none, .mov (.t 10), []⟩, ⟨5, (some 129), none, .ixs 1 (.t 127) (.t 128), []⟩, ⟨6, (some 130), none, .ld (.t 129), []⟩, ⟨7, (some 131), none, .mov (.t 8), []⟩, ⟨8, (some 132), none, .bin .mul (.c (.int .i64 7)) (.t 131), []⟩, ⟨9, (some 133), none, .bin .add (.c (.int .i64 11)) (.t 132), []⟩, ⟨10, (some 134), none, .cnv .u8 (.t 133), []⟩, ⟨11, (some 135), none, .bin .neq (.t 130) (.t 134), []⟩]) (.ite (.t 135) (.seq (.ops [⟨0, (some 2), none, .mov (.c (.bool false)), []⟩]) .ret) .skip))) (.ops [⟨0, (some 122), none, .mov (.t 10), []⟩, ⟨1, (some 123), none, .bin .add (.t 122) (.c (.int .i64 1)), []⟩, ⟨2, (some 10), none, .mov (.t 123), []⟩])))))))) (.ops [⟨0, (some 73), none, .mov (.t 8), []⟩, ⟨1, (some 74), none, .bin .add (.t 73) (.c (.int .i64 1)), []⟩, ⟨2, (some 8), none, .mov (.t 74), []⟩])))))) (.seq (.ops [⟨0, (some 2), none, .mov (.c (.bool true)), []⟩]) .ret)))))
attribute [irreducible] c_culletlaw04_apart8
theorem run_culletlaw04_apart8 {args : List Value} {w : World} {K : Value → World → Prop} (hn : args.length ≤ 136) (h : WP Try.prog c_culletlaw04_apart8 (endQ [.t 2] K) (initT args) w) : CallV Try.prog 72 args w K :=
  call_of follows Try.func72 (by kernel_rfl) (by kernel_rfl) hn h
end Go.Proofs.Ytcdagkcchfibjaa.Fw
namespace Go.Proofs.Ytcdagkcchfibjaa.Fw
open Go Go.Fw
theorem w10 (i : Nat) (h : i < 1000) : IntKind.i64.wrap (10 + ((7 * i : Nat) : Int)) = ((10 + 7 * i : Nat) : Int) := by rw [wrap_id (by omega) (by omega)]; omega
theorem w11 (i : Nat) (h : i < 1000) : IntKind.i64.wrap (11 + ((7 * i : Nat) : Int)) = ((11 + 7 * i : Nat) : Int) := by rw [wrap_id (by omega) (by omega)]; omega
end Go.Proofs.Ytcdagkcchfibjaa.Fw

namespace Go.Proofs.Ytcdagkcchfibjaa.Fw
open Go Go.Fw
theorem Hj_eqw {hs : List Hd} {j : Nat} (h : j < hs.length) : Cell.v hs[j] = Hj hs j := (Hj_get h).symm
theorem rep_ofw {l : List (El 16)} {n : Nat} {x : El 16} (hl : l.length = n) (h : ∀ i, i < n → (co l).c i = x) : l = List.replicate n x :=
  co_ext (by simp [hl]) (Ps.ext fun i => by
    by_cases hi : i < n
    · rw [h i hi, co_get _ (by simpa using hi)]; simp
    · rw [co_dg l i (by omega), co_dg _ i (by simp; omega)])
def mw (n : Nat) : El 16 := ⟨BitVec.ofNat 16 n⟩
theorem mw_v (n : Nat) (h : n < 256) : (mw n).v.toNat = n := by simp [mw]; omega
set_option maxHeartbeats 8000000 in
theorem culletlaw04_apart16_spec (w : World) (B : Nat) (F : World → Prop) (D : Nat → Prop) (rows : Value) (hs : List Hd) (R : List (List (El 16))) (hap : Apart rows hs) (hF : Frm F D) (hD : ∀ i (hi : i < hs.length) b, Fw.blk (Cell.v hs[i]) = some b → D b) (hDn : ∀ b, w.heap.size ≤ b → D b) (hM : Rof B F rows hs R w) (hne : ∀ j, j < hs.length → (R.getD j []).length ≤ 70368744175616) (hn0 : 0 < hs.length) (hn : hs.length ≤ 30) :
    CallV Try.prog 70 [rows] w fun v w' => v = .bool true ∧ F w' := by
  refine run_culletlaw04_apart16 (by simp) ?_
  simp only [c_culletlaw04_apart16, WS, List.getElem_cons_zero, List.getElem_cons_succ, Option.isNone_some, Option.isNone_none, List.getD_cons_zero, List.getD_cons_succ, I.at, atL, atO, atP, evp, evs, retV, ↓reduceIte, Nat.reduceEqDiff, reduceCtorEq]
  simp (maxSteps := 1000000) (disch := omega) only [WS, List.getElem_cons_zero, List.getElem_cons_succ, Option.isNone_some, Option.isNone_none, List.getD_cons_zero, List.getD_cons_succ, I.at, atL, atO, atP, evp, evs, retV, ↓reduceIte, Nat.reduceEqDiff, reduceCtorEq, AS, hM.2.2.1.Xlen]
  refine X_mks (x := hdn) (by simp only [maxBytes]; omega) (by omega) fun gs w0 og hB => ?_
  obtain ⟨gsb, hgb, hgbl⟩ := og.sl.blk_lt (by intro e; have h := congrArg List.length e; rw [List.length_replicate] at h; have h2 : hs.length = 0 := h; omega)
  have hgsz : w.heap.size ≤ gsb := (og.blk gsb hgb).1
  obtain ⟨rb, hrb, hrlt⟩ := hM.2.2.1.blk_lt (by rintro rfl; simp at hn0)
  have og := og.mono hM.2.2.2.2
  have hHb : ∀ j b, j < hs.length → Fw.blk (Hj hs j) = some b → b < gsb ∧ Fw.blk rows ≠ some b := fun j b hj hb => by
    rw [← Hj_eqw hj] at hb
    have := ((hM.2.1 j hj).blk b hb).2
    exact ⟨by omega, hap.list j hj b hb⟩
  have hM : Rof B F rows hs R w0 := ⟨hM.1, fun i hi => (hM.2.1 i hi).up hB, hM.2.2.1.up hB, hF.up _ _ hM.2.2.2.1 hB, Nat.le_trans hM.2.2.2.2 hB.size⟩
  have hDgs : D gsb := hDn gsb hgsz
  simp (maxSteps := 1000000) (disch := omega) only [WS, List.getElem_cons_zero, List.getElem_cons_succ, Option.isNone_some, Option.isNone_none, List.getD_cons_zero, List.getD_cons_succ, I.at, atL, atO, atP, evp, evs, retV, ↓reduceIte, Nat.reduceEqDiff, reduceCtorEq, AS]
  refine loop_of (fun t w' => t 0 = rows ∧ t 3 = gs ∧ ∃ (i : Nat) (R' : List (List (El 16))) (G : List Hd), t 4 = .int .i64 (i : Int) ∧ i ≤ hs.length ∧ Rof B F rows hs R' w' ∧ Ow B w' gs G ∧ G.length = hs.length ∧ (∀ j, j < i → Hj G j = Hj hs j) ∧ gsb < w'.heap.size ∧ (∀ j, j < hs.length → (R'.getD j []).length = (R.getD j []).length) ∧ ∀ j, j < i → R'.getD j [] = List.replicate (R.getD j []).length (mw (10 + 7 * j)))
    (fun t _ => hs.length - (toI (t 4)).toNat) ⟨by simp only [WS, List.getElem_cons_zero, List.getElem_cons_succ, Option.isNone_some, Option.isNone_none, List.getD_cons_zero, List.getD_cons_succ, I.at, atL, atO, atP, evp, evs, retV, ↓reduceIte, Nat.reduceEqDiff, reduceCtorEq], by simp only [WS, List.getElem_cons_zero, List.getElem_cons_succ, Option.isNone_some, Option.isNone_none, List.getD_cons_zero, List.getD_cons_succ, I.at, atL, atO, atP, evp, evs, retV, ↓reduceIte, Nat.reduceEqDiff, reduceCtorEq], 0, R, _, rfl, by omega, hM, og, by simp, fun j hj => by omega, hgbl, fun _ _ => rfl, fun j hj => by omega⟩ ?_
  clear hM og hgbl
  rintro t w1 ⟨t0, t3, i, R', G, t4, hi, hM, og, hGl, hGv, hgbl, hlen, hdone⟩
  by_cases hil : i < hs.length
  · have hl := hM.1
    have hlenI := hlen i hil
    have hni0 := hne i hil
    have hF1 : Frm (fun w => F w ∧ Ow B w gs G) (fun b => D b ∧ b ≠ gsb) := ⟨fun w1 w2 b h hd hg => ⟨hF.gr _ _ b h.1 hd.1 hg, h.2.grown hg (by rw [hgb]; intro e; cases e; exact hd.2 rfl)⟩, fun w1 w2 h hB => ⟨hF.up _ _ h.1 hB, h.2.up hB⟩⟩
    have hD1 : ∀ i (hi : i < hs.length) b, Fw.blk (Cell.v hs[i]) = some b → D b ∧ b ≠ gsb := fun i hi b hb => ⟨hD i hi b hb, fun e => by rw [Hj_eqw hi] at hb; have := (hHb i b hi hb).1; omega⟩
    have W := (Rof.rws (α := El 16) (B := B) hap hF1 hD1).wr R' i hil hl
    have hM1 : Rof B (fun w => F w ∧ Ow B w gs G) rows hs R' w1 := ⟨hM.1, hM.2.1, hM.2.2.1, ⟨hM.2.2.2.1, og⟩, hM.2.2.2.2⟩
    simp (maxSteps := 1000000) (disch := omega) only [WS, List.getElem_cons_zero, List.getElem_cons_succ, Option.isNone_some, Option.isNone_none, List.getD_cons_zero, List.getD_cons_succ, I.at, atL, atO, atP, evp, evs, retV, ↓reduceIte, Nat.reduceEqDiff, reduceCtorEq, AS, t0, t3, t4, hM.2.2.1.Xlen]
    refine loop_of (fun t w' => t 0 = rows ∧ t 3 = gs ∧ t 4 = .int .i64 (i : Int) ∧ ∃ (j : Nat) (a : List (El 16)), t 5 = .int .i64 (j : Int) ∧ j ≤ a.length ∧ Rof B (fun w => F w ∧ Ow B w gs G) rows hs (R'.set i a) w' ∧ gsb < w'.heap.size ∧ a.length = (R.getD i []).length ∧ ∀ x, x < j → (co a).c x = mw (10 + 7 * i))
      (fun t _ => (R.getD i []).length - (toI (t 5)).toNat) ⟨by simp only [WS, List.getElem_cons_zero, List.getElem_cons_succ, Option.isNone_some, Option.isNone_none, List.getD_cons_zero, List.getD_cons_succ, I.at, atL, atO, atP, evp, evs, retV, ↓reduceIte, Nat.reduceEqDiff, reduceCtorEq]; exact t0, by simp only [WS, List.getElem_cons_zero, List.getElem_cons_succ, Option.isNone_some, Option.isNone_none, List.getD_cons_zero, List.getD_cons_succ, I.at, atL, atO, atP, evp, evs, retV, ↓reduceIte, Nat.reduceEqDiff, reduceCtorEq]; exact t3, by simp only [WS, List.getElem_cons_zero, List.getElem_cons_succ, Option.isNone_some, Option.isNone_none, List.getD_cons_zero, List.getD_cons_succ, I.at, atL, atO, atP, evp, evs, retV, ↓reduceIte, Nat.reduceEqDiff, reduceCtorEq]; exact t4, 0, R'.getD i [], rfl, by omega, by rw [show R'.set i (R'.getD i []) = R' by rw [List.getD_eq_getElem?_getD, List.getElem?_eq_getElem (by omega)]; simp]; exact hM1, hgbl, hlenI, fun x hx => by omega⟩ ?_
    clear t0 t3 t4 hM hM1 og hgbl
    rintro t w2 ⟨t0, t3, t4, j, a, t5, hj, hM, hgbl, ha, hav⟩
    have hrl := hM.2.2.1
    have hai := (hM.2.1 i hil).sl
    rw [getD_setL R' (by omega), if_pos rfl] at hai
    by_cases hja : j < a.length
    · have e1 : IntKind.u16.wrap ((10 + 7 * i : Nat) : Int) = ((mw (10 + 7 * i)).v.toNat : Int) := by rw [wrap_u16 _ (by omega), mw_v _ (by omega)]
      simp (maxSteps := 1000000) (disch := omega) only [WS, List.getElem_cons_zero, List.getElem_cons_succ, Option.isNone_some, Option.isNone_none, List.getD_cons_zero, List.getD_cons_succ, I.at, atL, atO, atP, evp, evs, retV, ↓reduceIte, Nat.reduceEqDiff, reduceCtorEq, AS, t0, t3, t4, t5, hrl.Xix hil, hrl.Xld hil, hai.Xlen, w10 i (by omega), e1, hai.Xix hja]
      refine W.Xst hM hja (mw (10 + 7 * i)) fun w3 hM3 hg3 => ?_
      simp (maxSteps := 1000000) (disch := omega) only [WS, List.getElem_cons_zero, List.getElem_cons_succ, Option.isNone_some, Option.isNone_none, List.getD_cons_zero, List.getD_cons_succ, I.at, atL, atO, atP, evp, evs, retV, ↓reduceIte, Nat.reduceEqDiff, reduceCtorEq, AS, t0, t3, t4, t5]
      refine ⟨⟨j + 1, _, rfl, by simp; omega, hM3, Nat.lt_of_lt_of_le hgbl hg3.size, by simp [ha], fun x hx => ?_⟩, by omega⟩
      rw [co_set _ hja]
      by_cases hxj : x = j
      · rw [if_pos hxj]
      · rw [if_neg hxj]; exact hav x (by omega)
    · obtain ⟨hMl, hMo, hMr, ⟨hMF, og⟩, hMs⟩ := hM
      have iG : i < G.length := by omega
      simp (maxSteps := 1000000) (disch := omega) only [WS, List.getElem_cons_zero, List.getElem_cons_succ, Option.isNone_some, Option.isNone_none, List.getD_cons_zero, List.getD_cons_succ, I.at, atL, atO, atP, evp, evs, retV, ↓reduceIte, Nat.reduceEqDiff, reduceCtorEq, AS, t0, t3, t4, t5, hrl.Xix hil, hrl.Xld hil, hai.Xlen, og.sl.Xix iG]
      refine og.Xst iG hs[i] fun w3 og3 hg3 => ?_
      rw [hgb] at hg3
      have hMo3 : ∀ x (hx : x < hs.length), Ow B w3 (Cell.v hs[x]) ((R'.set i a).getD x []) := fun x hx => (hMo x hx).grown hg3 (by rw [Hj_eqw hx]; intro e; have := (hHb x gsb hx e).1; omega)
      have hMr3 : Sl w3 rows hs := hMr.grown hg3 (Or.inl (by rw [hrb]; intro e; cases e; omega))
      simp (maxSteps := 1000000) (disch := omega) only [WS, List.getElem_cons_zero, List.getElem_cons_succ, Option.isNone_some, Option.isNone_none, List.getD_cons_zero, List.getD_cons_succ, I.at, atL, atO, atP, evp, evs, retV, ↓reduceIte, Nat.reduceEqDiff, reduceCtorEq, AS, t0, t3, t4, t5]
      refine ⟨⟨i + 1, R'.set i a, G.set i hs[i], rfl, by omega, ⟨hMl, hMo3, hMr3, hF.gr _ _ gsb hMF hDgs hg3, Nat.le_trans hMs hg3.size⟩, og3, by simpa using hGl, fun x hx => ?_, Nat.lt_of_lt_of_le hgbl hg3.size, fun x hx => ?_, fun x hx => ?_⟩, by omega⟩
      · rw [Hj_set iG]
        by_cases hxi : x = i
        · rw [if_pos hxi, hxi, Hj_eqw hil]
        · rw [if_neg hxi]; exact hGv x (by omega)
      · rw [getD_setL R' (by omega)]
        by_cases hxi : x = i
        · rw [if_pos hxi, ha, hxi]
        · rw [if_neg hxi]; exact hlen x hx
      · rw [getD_setL R' (by omega)]
        by_cases hxi : x = i
        · rw [if_pos hxi, hxi]; exact rep_ofw ha fun y hy => hav y (by omega)
        · rw [if_neg hxi]; exact hdone x (by omega)
  obtain rfl : i = hs.length := by omega
  obtain ⟨hl, hO, hrl, hbel, hsz⟩ := hM
  have hOj : ∀ j, j < hs.length → Ow B w1 (Hj hs j) (R'.getD j []) := fun j hj => by rw [← Hj_eqw hj]; exact hO j hj
  have hDH : ∀ j b, j < hs.length → Fw.blk (Hj hs j) = some b → D b := fun j b hj hb => hD j hj b (by rw [Hj_eqw hj]; exact hb)
  have hDg : ∀ b, gsb ≤ b → D b := fun b hb => hDn b (by omega)
  have G0 : Gr (α := El 16) B F rows gsb hs (fun j => Hj hs j) (fun j => R'.getD j []) (fun j => R'.getD j [] ++ List.replicate (if j < 0 then 70 else if j = 0 then 0 else 0) (mw (11 + 7 * j))) w1 := by
    have hif : ∀ j, (if j < 0 then 70 else if j = 0 then 0 else 0) = 0 := fun j => by rw [if_neg (by omega)]; split <;> rfl
    refine ⟨hrl, fun j hj => (hOj j hj).sl, fun j hj => by rw [hif]; simpa using hOj j hj, fun j hj => ⟨_, rfl⟩, fun j hj hR => (hOj j hj).shape hR, hHb, fun b hb => by rw [hrb] at hb; cases hb; omega, fun j b hj hb => Or.inl hb, fun j m b hj hm hjm hb => ?_, fun j m b hj hm hjm hb => ?_, hbel, hsz, hgbl⟩
    · rw [← Hj_eqw hj] at hb; rw [← Hj_eqw hm]; exact hap.two j m hj hm b hjm hb
    · rw [← Hj_eqw hj] at hb; rw [← Hj_eqw hm]; exact hap.two j m hj hm b hjm hb
  simp (maxSteps := 1000000) (disch := omega) only [WS, List.getElem_cons_zero, List.getElem_cons_succ, Option.isNone_some, Option.isNone_none, List.getD_cons_zero, List.getD_cons_succ, I.at, atL, atO, atP, evp, evs, retV, ↓reduceIte, Nat.reduceEqDiff, reduceCtorEq, AS, t0, t3, t4, hrl.Xlen]
  refine loop_of (fun t w' => t 0 = rows ∧ t 3 = gs ∧ ∃ (i : Nat) (G : List Hd) (Gv : Nat → Value), t 6 = .int .i64 (i : Int) ∧ i ≤ hs.length ∧ Ow B w' gs G ∧ G.length = hs.length ∧ (∀ j, j < hs.length → Hj G j = Gv j) ∧ Gr (α := El 16) B F rows gsb hs Gv (fun j => R'.getD j []) (fun j => R'.getD j [] ++ List.replicate (if j < i then 70 else if j = i then 0 else 0) (mw (11 + 7 * j))) w')
    (fun t _ => hs.length - (toI (t 6)).toNat) ⟨by simp only [WS, List.getElem_cons_zero, List.getElem_cons_succ, Option.isNone_some, Option.isNone_none, List.getD_cons_zero, List.getD_cons_succ, I.at, atL, atO, atP, evp, evs, retV, ↓reduceIte, Nat.reduceEqDiff, reduceCtorEq]; exact t0, by simp only [WS, List.getElem_cons_zero, List.getElem_cons_succ, Option.isNone_some, Option.isNone_none, List.getD_cons_zero, List.getD_cons_succ, I.at, atL, atO, atP, evp, evs, retV, ↓reduceIte, Nat.reduceEqDiff, reduceCtorEq]; exact t3, 0, G, _, rfl, by omega, og, hGl, hGv, G0⟩ ?_
  clear t0 t3 t4 G0 og hGl hGv hgbl hbel hsz hrl hO hOj
  rintro t w3 ⟨t0, t3, i, G, Gv, t6, hi, og, hGl, hGv, hG⟩
  by_cases hil : i < hs.length
  · have hli := hlen i hil
    have hni := hne i hil
    simp (maxSteps := 1000000) (disch := omega) only [WS, List.getElem_cons_zero, List.getElem_cons_succ, Option.isNone_some, Option.isNone_none, List.getD_cons_zero, List.getD_cons_succ, I.at, atL, atO, atP, evp, evs, retV, ↓reduceIte, Nat.reduceEqDiff, reduceCtorEq, AS, t0, t3, t6, hG.rl.Xlen]
    refine loop_of (fun t w' => t 0 = rows ∧ t 3 = gs ∧ t 6 = .int .i64 (i : Int) ∧ ∃ (c : Nat) (G : List Hd) (Gv : Nat → Value), t 7 = .int .i64 (c : Int) ∧ c ≤ 70 ∧ Ow B w' gs G ∧ G.length = hs.length ∧ (∀ j, j < hs.length → Hj G j = Gv j) ∧ Gr (α := El 16) B F rows gsb hs Gv (fun j => R'.getD j []) (fun j => R'.getD j [] ++ List.replicate (if j < i then 70 else if j = i then c else 0) (mw (11 + 7 * j))) w')
      (fun t _ => 70 - (toI (t 7)).toNat) ⟨by simp only [WS, List.getElem_cons_zero, List.getElem_cons_succ, Option.isNone_some, Option.isNone_none, List.getD_cons_zero, List.getD_cons_succ, I.at, atL, atO, atP, evp, evs, retV, ↓reduceIte, Nat.reduceEqDiff, reduceCtorEq]; exact t0, by simp only [WS, List.getElem_cons_zero, List.getElem_cons_succ, Option.isNone_some, Option.isNone_none, List.getD_cons_zero, List.getD_cons_succ, I.at, atL, atO, atP, evp, evs, retV, ↓reduceIte, Nat.reduceEqDiff, reduceCtorEq]; exact t3, by simp only [WS, List.getElem_cons_zero, List.getElem_cons_succ, Option.isNone_some, Option.isNone_none, List.getD_cons_zero, List.getD_cons_succ, I.at, atL, atO, atP, evp, evs, retV, ↓reduceIte, Nat.reduceEqDiff, reduceCtorEq]; exact t6, 0, G, Gv, rfl, by omega, og, hGl, hGv, hG⟩ ?_
    clear t0 t3 t6 hG og hGl hGv
    rintro t w4 ⟨t0, t3, t6, c, G, Gv, t7, hc, og, hGl, hGv, hG⟩
    by_cases hlt : c < 70
    · have iG : i < G.length := by omega
      have e2 : IntKind.u16.wrap ((11 + 7 * i : Nat) : Int) = ((mw (11 + 7 * i)).v.toNat : Int) := by rw [wrap_u16 _ (by omega), mw_v _ (by omega)]
      have hgi : Cell.v G[i] = Gv i := by rw [Hj_eqw iG]; exact hGv i hil
      simp (maxSteps := 1000000) (disch := omega) only [WS, List.getElem_cons_zero, List.getElem_cons_succ, Option.isNone_some, Option.isNone_none, List.getD_cons_zero, List.getD_cons_succ, I.at, atL, atO, atP, evp, evs, retV, ↓reduceIte, Nat.reduceEqDiff, reduceCtorEq, AS, t0, t3, t6, t7, og.sl.Xix iG, og.sl.Xld iG, hgi, w11 i (by omega), e2]
      refine X_bsl (zs := [mw (11 + 7 * i)]) (by rfl) (by rfl) fun e3 w5 o3 hB => ?_
      have hG := hG.up hF hB
      have og := og.up hB
      have hcur := hG.gr i hil
      have hif : (if i < i then 70 else if i = i then c else 0) = c := by rw [if_neg (by omega), if_pos rfl]
      rw [hif] at hcur
      simp (maxSteps := 1000000) (disch := omega) only [WS, List.getElem_cons_zero, List.getElem_cons_succ, Option.isNone_some, Option.isNone_none, List.getD_cons_zero, List.getD_cons_succ, I.at, atL, atO, atP, evp, evs, retV, ↓reduceIte, Nat.reduceEqDiff, reduceCtorEq, AS, t0, t3, t6, t7]
      refine Ow.Xapp2 hcur o3.sl hG.sz (by simp only [List.length_append, List.length_replicate, List.length_cons, List.length_nil, maxBytes]; omega) (by simp only [List.length_append, List.length_replicate, List.length_cons, List.length_nil]; omega) fun g' w6 og' hgr => ?_
      have hG6 := hG.app (i := i) (g' := g') (m := [mw (11 + 7 * i)]) hF hDH hDg hil (by rw [hif]; exact og') hgr
      have hgsne : ∀ b, Fw.blk gs = some b → Fw.blk (Gv i) ≠ some b := fun b hb e => by
        rw [hgb] at hb; cases hb
        rcases hG.gk i gsb hil e with h1 | h1
        · have := (hHb i gsb hil h1).1; omega
        · omega
      have og6 := og.keep hgr.keep hgsne
      obtain ⟨x, rfl⟩ : ∃ x : Hd, g' = Cell.v x := ⟨hd g', og'.sl.hd.1.symm⟩
      simp (maxSteps := 1000000) (disch := omega) only [WS, List.getElem_cons_zero, List.getElem_cons_succ, Option.isNone_some, Option.isNone_none, List.getD_cons_zero, List.getD_cons_succ, I.at, atL, atO, atP, evp, evs, retV, ↓reduceIte, Nat.reduceEqDiff, reduceCtorEq, AS, t0, t3, t6, t7, og6.sl.Xix iG]
      refine og6.Xst iG x fun w7 og7 hg7 => ?_
      rw [hgb] at hg7
      have hG7 := hG6.st hF hDgs hg7
      simp (maxSteps := 1000000) (disch := omega) only [WS, List.getElem_cons_zero, List.getElem_cons_succ, Option.isNone_some, Option.isNone_none, List.getD_cons_zero, List.getD_cons_succ, I.at, atL, atO, atP, evp, evs, retV, ↓reduceIte, Nat.reduceEqDiff, reduceCtorEq, AS, t0, t3, t6, t7]
      refine ⟨⟨c + 1, G.set i x, fun j => if j = i then Cell.v x else Gv j, rfl, by omega, og7, by simpa using hGl, fun j hj => ?_, ?_⟩, by omega⟩
      · show _ = if j = i then Cell.v x else Gv j
        rw [Hj_set iG]
        by_cases hji : j = i
        · rw [if_pos hji, if_pos hji]
        · rw [if_neg hji, if_neg hji]; exact hGv j hj
      · have hE : (fun j => if j = i then (R'.getD i [] ++ List.replicate (if i < i then 70 else if i = i then c else 0) (mw (11 + 7 * i))) ++ [mw (11 + 7 * i)] else R'.getD j [] ++ List.replicate (if j < i then 70 else if j = i then c else 0) (mw (11 + 7 * j))) = fun j => R'.getD j [] ++ List.replicate (if j < i then 70 else if j = i then c + 1 else 0) (mw (11 + 7 * j)) := by
          funext j
          by_cases hji : j = i
          · subst hji
            rw [if_pos rfl, hif, List.append_assoc, ← List.replicate_succ', if_neg (by omega), if_pos rfl]
          · rw [if_neg hji, if_neg hji, if_neg hji]
        rw [hE] at hG7
        exact hG7
    · obtain rfl : c = 70 := by omega
      simp (maxSteps := 1000000) (disch := omega) only [WS, List.getElem_cons_zero, List.getElem_cons_succ, Option.isNone_some, Option.isNone_none, List.getD_cons_zero, List.getD_cons_succ, I.at, atL, atO, atP, evp, evs, retV, ↓reduceIte, Nat.reduceEqDiff, reduceCtorEq, AS, t0, t3, t6, t7, show decide (((70 : Nat) : Int) < 70) = false from rfl]
      refine ⟨⟨i + 1, G, Gv, rfl, by omega, og, hGl, hGv, ?_⟩, by omega⟩
      have hE : (fun j => R'.getD j [] ++ List.replicate (if j < i then 70 else if j = i then 70 else 0) (mw (11 + 7 * j))) = fun j => R'.getD j [] ++ List.replicate (if j < i + 1 then 70 else if j = i + 1 then 0 else 0) (mw (11 + 7 * j)) := by
        funext j
        by_cases hji : j < i
        · rw [if_pos hji, if_pos (by omega)]
        · rw [if_neg hji]
          by_cases hj2 : j = i
          · rw [if_pos hj2, if_pos (by omega)]
          · rw [if_neg hj2, if_neg (by omega)]; split <;> rfl
      rw [hE] at hG
      exact hG
  · obtain rfl : i = hs.length := by omega
    simp (maxSteps := 1000000) (disch := omega) only [WS, List.getElem_cons_zero, List.getElem_cons_succ, Option.isNone_some, Option.isNone_none, List.getD_cons_zero, List.getD_cons_succ, I.at, atL, atO, atP, evp, evs, retV, ↓reduceIte, Nat.reduceEqDiff, reduceCtorEq, AS, t0, t3, t6, hG.rl.Xlen]
    refine loop_of (fun t w' => t 0 = rows ∧ t 3 = gs ∧ w' = w3 ∧ ∃ i : Nat, t 8 = .int .i64 (i : Int) ∧ i ≤ hs.length) (fun t _ => hs.length - (toI (t 8)).toNat) ⟨by simp only [WS, List.getElem_cons_zero, List.getElem_cons_succ, Option.isNone_some, Option.isNone_none, List.getD_cons_zero, List.getD_cons_succ, I.at, atL, atO, atP, evp, evs, retV, ↓reduceIte, Nat.reduceEqDiff, reduceCtorEq]; exact t0, by simp only [WS, List.getElem_cons_zero, List.getElem_cons_succ, Option.isNone_some, Option.isNone_none, List.getD_cons_zero, List.getD_cons_succ, I.at, atL, atO, atP, evp, evs, retV, ↓reduceIte, Nat.reduceEqDiff, reduceCtorEq]; exact t3, rfl, 0, rfl, by omega⟩ ?_
    clear t0 t3 t6
    rintro t w' ⟨t0, t3, rfl, i, t8, hi⟩
    by_cases hil : i < hs.length
    · have e1 := Hj_eqw hil
      have iG : i < G.length := by omega
      have e2 : Cell.v G[i] = Gv i := by rw [Hj_eqw iG]; exact hGv i hil
      have hH := hG.hr i hil
      have hGi := (hG.gr i hil).sl
      have hli := hlen i hil
      have hni := hne i hil
      have hdi := hdone i hil
      rw [if_pos hil] at hGi
      simp only [hdi] at hH hGi
      generalize hnl : (R.getD i []).length = n at *
      have ln1 : (List.replicate n (mw (10 + 7 * i))).length = n := List.length_replicate
      have ln2 : (List.replicate n (mw (10 + 7 * i)) ++ List.replicate 70 (mw (11 + 7 * i))).length = n + 70 := by simp
      have f1 : IntKind.u16.wrap ((10 + 7 * i : Nat) : Int) = ((mw (10 + 7 * i)).v.toNat : Int) := by rw [wrap_u16 _ (by omega), mw_v _ (by omega)]
      have f2 : IntKind.u16.wrap ((11 + 7 * i : Nat) : Int) = ((mw (11 + 7 * i)).v.toNat : Int) := by rw [wrap_u16 _ (by omega), mw_v _ (by omega)]
      have g1 : ∀ e : Int, decide (e = e) = true := fun e => decide_eq_true rfl
      simp (maxSteps := 1000000) (disch := omega) only [WS, List.getElem_cons_zero, List.getElem_cons_succ, Option.isNone_some, Option.isNone_none, List.getD_cons_zero, List.getD_cons_succ, I.at, atL, atO, atP, evp, evs, retV, ↓reduceIte, Nat.reduceEqDiff, reduceCtorEq, AS, t0, t3, t8, hG.rl.Xlen]
      refine loop_of (fun t w2 => t 0 = rows ∧ t 3 = gs ∧ t 8 = .int .i64 (i : Int) ∧ w2 = w' ∧ ∃ j : Nat, t 9 = .int .i64 (j : Int) ∧ j ≤ n) (fun t _ => n - (toI (t 9)).toNat) ⟨by simp only [WS, List.getElem_cons_zero, List.getElem_cons_succ, Option.isNone_some, Option.isNone_none, List.getD_cons_zero, List.getD_cons_succ, I.at, atL, atO, atP, evp, evs, retV, ↓reduceIte, Nat.reduceEqDiff, reduceCtorEq]; exact t0, by simp only [WS, List.getElem_cons_zero, List.getElem_cons_succ, Option.isNone_some, Option.isNone_none, List.getD_cons_zero, List.getD_cons_succ, I.at, atL, atO, atP, evp, evs, retV, ↓reduceIte, Nat.reduceEqDiff, reduceCtorEq]; exact t3, by simp only [WS, List.getElem_cons_zero, List.getElem_cons_succ, Option.isNone_some, Option.isNone_none, List.getD_cons_zero, List.getD_cons_succ, I.at, atL, atO, atP, evp, evs, retV, ↓reduceIte, Nat.reduceEqDiff, reduceCtorEq]; exact t8, rfl, 0, rfl, by omega⟩ ?_
      clear t0 t3 t8
      rintro t w2 ⟨t0, t3, t8, rfl, j, t9, hj⟩
      by_cases hjn : j < n
      · have i1 : j < (List.replicate n (mw (10 + 7 * i))).length := by omega
        have i2 : j < (List.replicate n (mw (10 + 7 * i)) ++ List.replicate 70 (mw (11 + 7 * i))).length := by omega
        have v1 : (List.replicate n (mw (10 + 7 * i)))[j] = mw (10 + 7 * i) := by simp
        have v2 : (List.replicate n (mw (10 + 7 * i)) ++ List.replicate 70 (mw (11 + 7 * i)))[j] = mw (10 + 7 * i) := by rw [List.getElem_append_left i1, List.getElem_replicate]
        simp (maxSteps := 1000000) (disch := omega) only [WS, List.getElem_cons_zero, List.getElem_cons_succ, Option.isNone_some, Option.isNone_none, List.getD_cons_zero, List.getD_cons_succ, I.at, atL, atO, atP, evp, evs, retV, ↓reduceIte, Nat.reduceEqDiff, reduceCtorEq, AS, t0, t3, t8, t9, hG.rl.Xix hil, hG.rl.Xld hil, e1, hH.Xlen, ln1, hH.Xix i1, hH.Xld i1, v1, cell_e16, w10 i (by omega), f1, g1, og.sl.Xix iG, og.sl.Xld iG, e2, hGi.Xix i2, hGi.Xld i2, v2]
        exact ⟨⟨j + 1, rfl, by omega⟩, by omega⟩
      · obtain rfl : j = n := by omega
        simp (maxSteps := 1000000) (disch := omega) only [WS, List.getElem_cons_zero, List.getElem_cons_succ, Option.isNone_some, Option.isNone_none, List.getD_cons_zero, List.getD_cons_succ, I.at, atL, atO, atP, evp, evs, retV, ↓reduceIte, Nat.reduceEqDiff, reduceCtorEq, AS, t0, t3, t8, t9, hG.rl.Xix hil, hG.rl.Xld hil, e1, hH.Xlen, ln1]
        refine loop_of (fun t u => t 0 = rows ∧ t 3 = gs ∧ t 8 = .int .i64 (i : Int) ∧ u = w2 ∧ ∃ y : Nat, t 10 = .int .i64 (y : Int) ∧ j ≤ y ∧ y ≤ j + 70) (fun t _ => j + 70 - (toI (t 10)).toNat) ⟨by simp only [WS, List.getElem_cons_zero, List.getElem_cons_succ, Option.isNone_some, Option.isNone_none, List.getD_cons_zero, List.getD_cons_succ, I.at, atL, atO, atP, evp, evs, retV, ↓reduceIte, Nat.reduceEqDiff, reduceCtorEq]; exact t0, by simp only [WS, List.getElem_cons_zero, List.getElem_cons_succ, Option.isNone_some, Option.isNone_none, List.getD_cons_zero, List.getD_cons_succ, I.at, atL, atO, atP, evp, evs, retV, ↓reduceIte, Nat.reduceEqDiff, reduceCtorEq]; exact t3, by simp only [WS, List.getElem_cons_zero, List.getElem_cons_succ, Option.isNone_some, Option.isNone_none, List.getD_cons_zero, List.getD_cons_succ, I.at, atL, atO, atP, evp, evs, retV, ↓reduceIte, Nat.reduceEqDiff, reduceCtorEq]; exact t8, rfl, j, rfl, by omega, by omega⟩ ?_
        clear t0 t3 t8 t9
        rintro t u ⟨t0, t3, t8, rfl, y, t10, hy1, hy2⟩
        by_cases hyn : y < j + 70
        · have i2 : y < (List.replicate j (mw (10 + 7 * i)) ++ List.replicate 70 (mw (11 + 7 * i))).length := by omega
          have v2 : (List.replicate j (mw (10 + 7 * i)) ++ List.replicate 70 (mw (11 + 7 * i)))[y] = mw (11 + 7 * i) := by rw [List.getElem_append_right (by rw [List.length_replicate]; omega), List.getElem_replicate]
          simp (maxSteps := 1000000) (disch := omega) only [WS, List.getElem_cons_zero, List.getElem_cons_succ, Option.isNone_some, Option.isNone_none, List.getD_cons_zero, List.getD_cons_succ, I.at, atL, atO, atP, evp, evs, retV, ↓reduceIte, Nat.reduceEqDiff, reduceCtorEq, AS, t0, t3, t8, t10, og.sl.Xix iG, og.sl.Xld iG, e2, hGi.Xlen, ln2, hGi.Xix i2, hGi.Xld i2, v2, cell_e16, w11 i (by omega), f2, g1]
          exact ⟨⟨y + 1, rfl, by omega, by omega⟩, by omega⟩
        · simp (maxSteps := 1000000) (disch := omega) only [WS, List.getElem_cons_zero, List.getElem_cons_succ, Option.isNone_some, Option.isNone_none, List.getD_cons_zero, List.getD_cons_succ, I.at, atL, atO, atP, evp, evs, retV, ↓reduceIte, Nat.reduceEqDiff, reduceCtorEq, AS, t0, t3, t8, t10, og.sl.Xix iG, og.sl.Xld iG, e2, hGi.Xlen, ln2]
          exact ⟨⟨i + 1, rfl, by omega⟩, by omega⟩
    · simp (maxSteps := 1000000) (disch := omega) only [WS, List.getElem_cons_zero, List.getElem_cons_succ, Option.isNone_some, Option.isNone_none, List.getD_cons_zero, List.getD_cons_succ, I.at, atL, atO, atP, evp, evs, retV, ↓reduceIte, Nat.reduceEqDiff, reduceCtorEq, AS, t0, t3, t8, hG.rl.Xlen]
      exact hG.fr
end Go.Proofs.Ytcdagkcchfibjaa.Fw

namespace Go.Proofs.Ytcdagkcchfibjaa.Fw
open Go Go.Fw
theorem Hj_eqb {hs : List Hd} {j : Nat} (h : j < hs.length) : Cell.v hs[j] = Hj hs j := (Hj_get h).symm
theorem rep_ofb {l : List (El 8)} {n : Nat} {x : El 8} (hl : l.length = n) (h : ∀ i, i < n → (co l).c i = x) : l = List.replicate n x :=
  co_ext (by simp [hl]) (Ps.ext fun i => by
    by_cases hi : i < n
    · rw [h i hi, co_get _ (by simpa using hi)]; simp
    · rw [co_dg l i (by omega), co_dg _ i (by simp; omega)])
def mb (n : Nat) : El 8 := ⟨BitVec.ofNat 8 n⟩
theorem mb_v (n : Nat) (h : n < 256) : (mb n).v.toNat = n := by simp [mb]; omega
set_option maxHeartbeats 8000000 in
theorem culletlaw04_apart8_spec (w : World) (B : Nat) (F : World → Prop) (D : Nat → Prop) (rows : Value) (hs : List Hd) (R : List (List (El 8))) (hap : Apart rows hs) (hF : Frm F D) (hD : ∀ i (hi : i < hs.length) b, Fw.blk (Cell.v hs[i]) = some b → D b) (hDn : ∀ b, w.heap.size ≤ b → D b) (hM : Rof B F rows hs R w) (hne : ∀ j, j < hs.length → (R.getD j []).length ≤ 70368744175616) (hn0 : 0 < hs.length) (hn : hs.length ≤ 30) :
    CallV Try.prog 72 [rows] w fun v w' => v = .bool true ∧ F w' := by
  refine run_culletlaw04_apart8 (by simp) ?_
  simp only [c_culletlaw04_apart8, WS, List.getElem_cons_zero, List.getElem_cons_succ, Option.isNone_some, Option.isNone_none, List.getD_cons_zero, List.getD_cons_succ, I.at, atL, atO, atP, evp, evs, retV, ↓reduceIte, Nat.reduceEqDiff, reduceCtorEq]
  simp (maxSteps := 1000000) (disch := omega) only [WS, List.getElem_cons_zero, List.getElem_cons_succ, Option.isNone_some, Option.isNone_none, List.getD_cons_zero, List.getD_cons_succ, I.at, atL, atO, atP, evp, evs, retV, ↓reduceIte, Nat.reduceEqDiff, reduceCtorEq, AS, hM.2.2.1.Xlen]
  refine X_mks (x := hdn) (by simp only [maxBytes]; omega) (by omega) fun gs w0 og hB => ?_
  obtain ⟨gsb, hgb, hgbl⟩ := og.sl.blk_lt (by intro e; have h := congrArg List.length e; rw [List.length_replicate] at h; have h2 : hs.length = 0 := h; omega)
  have hgsz : w.heap.size ≤ gsb := (og.blk gsb hgb).1
  obtain ⟨rb, hrb, hrlt⟩ := hM.2.2.1.blk_lt (by rintro rfl; simp at hn0)
  have og := og.mono hM.2.2.2.2
  have hHb : ∀ j b, j < hs.length → Fw.blk (Hj hs j) = some b → b < gsb ∧ Fw.blk rows ≠ some b := fun j b hj hb => by
    rw [← Hj_eqb hj] at hb
    have := ((hM.2.1 j hj).blk b hb).2
    exact ⟨by omega, hap.list j hj b hb⟩
  have hM : Rof B F rows hs R w0 := ⟨hM.1, fun i hi => (hM.2.1 i hi).up hB, hM.2.2.1.up hB, hF.up _ _ hM.2.2.2.1 hB, Nat.le_trans hM.2.2.2.2 hB.size⟩
  have hDgs : D gsb := hDn gsb hgsz
  simp (maxSteps := 1000000) (disch := omega) only [WS, List.getElem_cons_zero, List.getElem_cons_succ, Option.isNone_some, Option.isNone_none, List.getD_cons_zero, List.getD_cons_succ, I.at, atL, atO, atP, evp, evs, retV, ↓reduceIte, Nat.reduceEqDiff, reduceCtorEq, AS]
  refine loop_of (fun t w' => t 0 = rows ∧ t 3 = gs ∧ ∃ (i : Nat) (R' : List (List (El 8))) (G : List Hd), t 4 = .int .i64 (i : Int) ∧ i ≤ hs.length ∧ Rof B F rows hs R' w' ∧ Ow B w' gs G ∧ G.length = hs.length ∧ (∀ j, j < i → Hj G j = Hj hs j) ∧ gsb < w'.heap.size ∧ (∀ j, j < hs.length → (R'.getD j []).length = (R.getD j []).length) ∧ ∀ j, j < i → R'.getD j [] = List.replicate (R.getD j []).length (mb (10 + 7 * j)))
    (fun t _ => hs.length - (toI (t 4)).toNat) ⟨by simp only [WS, List.getElem_cons_zero, List.getElem_cons_succ, Option.isNone_some, Option.isNone_none, List.getD_cons_zero, List.getD_cons_succ, I.at, atL, atO, atP, evp, evs, retV, ↓reduceIte, Nat.reduceEqDiff, reduceCtorEq], by simp only [WS, List.getElem_cons_zero, List.getElem_cons_succ, Option.isNone_some, Option.isNone_none, List.getD_cons_zero, List.getD_cons_succ, I.at, atL, atO, atP, evp, evs, retV, ↓reduceIte, Nat.reduceEqDiff, reduceCtorEq], 0, R, _, rfl, by omega, hM, og, by simp, fun j hj => by omega, hgbl, fun _ _ => rfl, fun j hj => by omega⟩ ?_
  clear hM og hgbl
  rintro t w1 ⟨t0, t3, i, R', G, t4, hi, hM, og, hGl, hGv, hgbl, hlen, hdone⟩
  by_cases hil : i < hs.length
  · have hl := hM.1
    have hlenI := hlen i hil
    have hni0 := hne i hil
    have hF1 : Frm (fun w => F w ∧ Ow B w gs G) (fun b => D b ∧ b ≠ gsb) := ⟨fun w1 w2 b h hd hg => ⟨hF.gr _ _ b h.1 hd.1 hg, h.2.grown hg (by rw [hgb]; intro e; cases e; exact hd.2 rfl)⟩, fun w1 w2 h hB => ⟨hF.up _ _ h.1 hB, h.2.up hB⟩⟩
    have hD1 : ∀ i (hi : i < hs.length) b, Fw.blk (Cell.v hs[i]) = some b → D b ∧ b ≠ gsb := fun i hi b hb => ⟨hD i hi b hb, fun e => by rw [Hj_eqb hi] at hb; have := (hHb i b hi hb).1; omega⟩
    have W := (Rof.rws (α := El 8) (B := B) hap hF1 hD1).wr R' i hil hl
    have hM1 : Rof B (fun w => F w ∧ Ow B w gs G) rows hs R' w1 := ⟨hM.1, hM.2.1, hM.2.2.1, ⟨hM.2.2.2.1, og⟩, hM.2.2.2.2⟩
    simp (maxSteps := 1000000) (disch := omega) only [WS, List.getElem_cons_zero, List.getElem_cons_succ, Option.isNone_some, Option.isNone_none, List.getD_cons_zero, List.getD_cons_succ, I.at, atL, atO, atP, evp, evs, retV, ↓reduceIte, Nat.reduceEqDiff, reduceCtorEq, AS, t0, t3, t4, hM.2.2.1.Xlen]
    refine loop_of (fun t w' => t 0 = rows ∧ t 3 = gs ∧ t 4 = .int .i64 (i : Int) ∧ ∃ (j : Nat) (a : List (El 8)), t 5 = .int .i64 (j : Int) ∧ j ≤ a.length ∧ Rof B (fun w => F w ∧ Ow B w gs G) rows hs (R'.set i a) w' ∧ gsb < w'.heap.size ∧ a.length = (R.getD i []).length ∧ ∀ x, x < j → (co a).c x = mb (10 + 7 * i))
      (fun t _ => (R.getD i []).length - (toI (t 5)).toNat) ⟨by simp only [WS, List.getElem_cons_zero, List.getElem_cons_succ, Option.isNone_some, Option.isNone_none, List.getD_cons_zero, List.getD_cons_succ, I.at, atL, atO, atP, evp, evs, retV, ↓reduceIte, Nat.reduceEqDiff, reduceCtorEq]; exact t0, by simp only [WS, List.getElem_cons_zero, List.getElem_cons_succ, Option.isNone_some, Option.isNone_none, List.getD_cons_zero, List.getD_cons_succ, I.at, atL, atO, atP, evp, evs, retV, ↓reduceIte, Nat.reduceEqDiff, reduceCtorEq]; exact t3, by simp only [WS, List.getElem_cons_zero, List.getElem_cons_succ, Option.isNone_some, Option.isNone_none, List.getD_cons_zero, List.getD_cons_succ, I.at, atL, atO, atP, evp, evs, retV, ↓reduceIte, Nat.reduceEqDiff, reduceCtorEq]; exact t4, 0, R'.getD i [], rfl, by omega, by rw [show R'.set i (R'.getD i []) = R' by rw [List.getD_eq_getElem?_getD, List.getElem?_eq_getElem (by omega)]; simp]; exact hM1, hgbl, hlenI, fun x hx => by omega⟩ ?_
    clear t0 t3 t4 hM hM1 og hgbl
    rintro t w2 ⟨t0, t3, t4, j, a, t5, hj, hM, hgbl, ha, hav⟩
    have hrl := hM.2.2.1
    have hai := (hM.2.1 i hil).sl
    rw [getD_setL R' (by omega), if_pos rfl] at hai
    by_cases hja : j < a.length
    · have e1 : IntKind.u8.wrap ((10 + 7 * i : Nat) : Int) = ((mb (10 + 7 * i)).v.toNat : Int) := by rw [wrap_u8 _ (by omega), mb_v _ (by omega)]
      simp (maxSteps := 1000000) (disch := omega) only [WS, List.getElem_cons_zero, List.getElem_cons_succ, Option.isNone_some, Option.isNone_none, List.getD_cons_zero, List.getD_cons_succ, I.at, atL, atO, atP, evp, evs, retV, ↓reduceIte, Nat.reduceEqDiff, reduceCtorEq, AS, t0, t3, t4, t5, hrl.Xix hil, hrl.Xld hil, hai.Xlen, w10 i (by omega), e1, hai.Xix hja]
      refine W.Xst hM hja (mb (10 + 7 * i)) fun w3 hM3 hg3 => ?_
      simp (maxSteps := 1000000) (disch := omega) only [WS, List.getElem_cons_zero, List.getElem_cons_succ, Option.isNone_some, Option.isNone_none, List.getD_cons_zero, List.getD_cons_succ, I.at, atL, atO, atP, evp, evs, retV, ↓reduceIte, Nat.reduceEqDiff, reduceCtorEq, AS, t0, t3, t4, t5]
      refine ⟨⟨j + 1, _, rfl, by simp; omega, hM3, Nat.lt_of_lt_of_le hgbl hg3.size, by simp [ha], fun x hx => ?_⟩, by omega⟩
      rw [co_set _ hja]
      by_cases hxj : x = j
      · rw [if_pos hxj]
      · rw [if_neg hxj]; exact hav x (by omega)
    · obtain ⟨hMl, hMo, hMr, ⟨hMF, og⟩, hMs⟩ := hM
      have iG : i < G.length := by omega
      simp (maxSteps := 1000000) (disch := omega) only [WS, List.getElem_cons_zero, List.getElem_cons_succ, Option.isNone_some, Option.isNone_none, List.getD_cons_zero, List.getD_cons_succ, I.at, atL, atO, atP, evp, evs, retV, ↓reduceIte, Nat.reduceEqDiff, reduceCtorEq, AS, t0, t3, t4, t5, hrl.Xix hil, hrl.Xld hil, hai.Xlen, og.sl.Xix iG]
      refine og.Xst iG hs[i] fun w3 og3 hg3 => ?_
      rw [hgb] at hg3
      have hMo3 : ∀ x (hx : x < hs.length), Ow B w3 (Cell.v hs[x]) ((R'.set i a).getD x []) := fun x hx => (hMo x hx).grown hg3 (by rw [Hj_eqb hx]; intro e; have := (hHb x gsb hx e).1; omega)
      have hMr3 : Sl w3 rows hs := hMr.grown hg3 (Or.inl (by rw [hrb]; intro e; cases e; omega))
      simp (maxSteps := 1000000) (disch := omega) only [WS, List.getElem_cons_zero, List.getElem_cons_succ, Option.isNone_some, Option.isNone_none, List.getD_cons_zero, List.getD_cons_succ, I.at, atL, atO, atP, evp, evs, retV, ↓reduceIte, Nat.reduceEqDiff, reduceCtorEq, AS, t0, t3, t4, t5]
      refine ⟨⟨i + 1, R'.set i a, G.set i hs[i], rfl, by omega, ⟨hMl, hMo3, hMr3, hF.gr _ _ gsb hMF hDgs hg3, Nat.le_trans hMs hg3.size⟩, og3, by simpa using hGl, fun x hx => ?_, Nat.lt_of_lt_of_le hgbl hg3.size, fun x hx => ?_, fun x hx => ?_⟩, by omega⟩
      · rw [Hj_set iG]
        by_cases hxi : x = i
        · rw [if_pos hxi, hxi, Hj_eqb hil]
        · rw [if_neg hxi]; exact hGv x (by omega)
      · rw [getD_setL R' (by omega)]
        by_cases hxi : x = i
        · rw [if_pos hxi, ha, hxi]
        · rw [if_neg hxi]; exact hlen x hx
      · rw [getD_setL R' (by omega)]
        by_cases hxi : x = i
        · rw [if_pos hxi, hxi]; exact rep_ofb ha fun y hy => hav y (by omega)
        · rw [if_neg hxi]; exact hdone x (by omega)
  obtain rfl : i = hs.length := by omega
  obtain ⟨hl, hO, hrl, hbel, hsz⟩ := hM
  have hOj : ∀ j, j < hs.length → Ow B w1 (Hj hs j) (R'.getD j []) := fun j hj => by rw [← Hj_eqb hj]; exact hO j hj
  have hDH : ∀ j b, j < hs.length → Fw.blk (Hj hs j) = some b → D b := fun j b hj hb => hD j hj b (by rw [Hj_eqb hj]; exact hb)
  have hDg : ∀ b, gsb ≤ b → D b := fun b hb => hDn b (by omega)
  have G0 : Gr (α := El 8) B F rows gsb hs (fun j => Hj hs j) (fun j => R'.getD j []) (fun j => R'.getD j [] ++ List.replicate (if j < 0 then 70 else if j = 0 then 0 else 0) (mb (11 + 7 * j))) w1 := by
    have hif : ∀ j, (if j < 0 then 70 else if j = 0 then 0 else 0) = 0 := fun j => by rw [if_neg (by omega)]; split <;> rfl
    refine ⟨hrl, fun j hj => (hOj j hj).sl, fun j hj => by rw [hif]; simpa using hOj j hj, fun j hj => ⟨_, rfl⟩, fun j hj hR => (hOj j hj).shape hR, hHb, fun b hb => by rw [hrb] at hb; cases hb; omega, fun j b hj hb => Or.inl hb, fun j m b hj hm hjm hb => ?_, fun j m b hj hm hjm hb => ?_, hbel, hsz, hgbl⟩
    · rw [← Hj_eqb hj] at hb; rw [← Hj_eqb hm]; exact hap.two j m hj hm b hjm hb
    · rw [← Hj_eqb hj] at hb; rw [← Hj_eqb hm]; exact hap.two j m hj hm b hjm hb
  simp (maxSteps := 1000000) (disch := omega) only [WS, List.getElem_cons_zero, List.getElem_cons_succ, Option.isNone_some, Option.isNone_none, List.getD_cons_zero, List.getD_cons_succ, I.at, atL, atO, atP, evp, evs, retV, ↓reduceIte, Nat.reduceEqDiff, reduceCtorEq, AS, t0, t3, t4, hrl.Xlen]
  refine loop_of (fun t w' => t 0 = rows ∧ t 3 = gs ∧ ∃ (i : Nat) (G : List Hd) (Gv : Nat → Value), t 6 = .int .i64 (i : Int) ∧ i ≤ hs.length ∧ Ow B w' gs G ∧ G.length = hs.length ∧ (∀ j, j < hs.length → Hj G j = Gv j) ∧ Gr (α := El 8) B F rows gsb hs Gv (fun j => R'.getD j []) (fun j => R'.getD j [] ++ List.replicate (if j < i then 70 else if j = i then 0 else 0) (mb (11 + 7 * j))) w')
    (fun t _ => hs.length - (toI (t 6)).toNat) ⟨by simp only [WS, List.getElem_cons_zero, List.getElem_cons_succ, Option.isNone_some, Option.isNone_none, List.getD_cons_zero, List.getD_cons_succ, I.at, atL, atO, atP, evp, evs, retV, ↓reduceIte, Nat.reduceEqDiff, reduceCtorEq]; exact t0, by simp only [WS, List.getElem_cons_zero, List.getElem_cons_succ, Option.isNone_some, Option.isNone_none, List.getD_cons_zero, List.getD_cons_succ, I.at, atL, atO, atP, evp, evs, retV, ↓reduceIte, Nat.reduceEqDiff, reduceCtorEq]; exact t3, 0, G, _, rfl, by omega, og, hGl, hGv, G0⟩ ?_
  clear t0 t3 t4 G0 og hGl hGv hgbl hbel hsz hrl hO hOj
  rintro t w3 ⟨t0, t3, i, G, Gv, t6, hi, og, hGl, hGv, hG⟩
  by_cases hil : i < hs.length
  · have hli := hlen i hil
    have hni := hne i hil
    simp (maxSteps := 1000000) (disch := omega) only [WS, List.getElem_cons_zero, List.getElem_cons_succ, Option.isNone_some, Option.isNone_none, List.getD_cons_zero, List.getD_cons_succ, I.at, atL, atO, atP, evp, evs, retV, ↓reduceIte, Nat.reduceEqDiff, reduceCtorEq, AS, t0, t3, t6, hG.rl.Xlen]
    refine loop_of (fun t w' => t 0 = rows ∧ t 3 = gs ∧ t 6 = .int .i64 (i : Int) ∧ ∃ (c : Nat) (G : List Hd) (Gv : Nat → Value), t 7 = .int .i64 (c : Int) ∧ c ≤ 70 ∧ Ow B w' gs G ∧ G.length = hs.length ∧ (∀ j, j < hs.length → Hj G j = Gv j) ∧ Gr (α := El 8) B F rows gsb hs Gv (fun j => R'.getD j []) (fun j => R'.getD j [] ++ List.replicate (if j < i then 70 else if j = i then c else 0) (mb (11 + 7 * j))) w')
      (fun t _ => 70 - (toI (t 7)).toNat) ⟨by simp only [WS, List.getElem_cons_zero, List.getElem_cons_succ, Option.isNone_some, Option.isNone_none, List.getD_cons_zero, List.getD_cons_succ, I.at, atL, atO, atP, evp, evs, retV, ↓reduceIte, Nat.reduceEqDiff, reduceCtorEq]; exact t0, by simp only [WS, List.getElem_cons_zero, List.getElem_cons_succ, Option.isNone_some, Option.isNone_none, List.getD_cons_zero, List.getD_cons_succ, I.at, atL, atO, atP, evp, evs, retV, ↓reduceIte, Nat.reduceEqDiff, reduceCtorEq]; exact t3, by simp only [WS, List.getElem_cons_zero, List.getElem_cons_succ, Option.isNone_some, Option.isNone_none, List.getD_cons_zero, List.getD_cons_succ, I.at, atL, atO, atP, evp, evs, retV, ↓reduceIte, Nat.reduceEqDiff, reduceCtorEq]; exact t6, 0, G, Gv, rfl, by omega, og, hGl, hGv, hG⟩ ?_
    clear t0 t3 t6 hG og hGl hGv
    rintro t w4 ⟨t0, t3, t6, c, G, Gv, t7, hc, og, hGl, hGv, hG⟩
    by_cases hlt : c < 70
    · have iG : i < G.length := by omega
      have e2 : IntKind.u8.wrap ((11 + 7 * i : Nat) : Int) = ((mb (11 + 7 * i)).v.toNat : Int) := by rw [wrap_u8 _ (by omega), mb_v _ (by omega)]
      have hgi : Cell.v G[i] = Gv i := by rw [Hj_eqb iG]; exact hGv i hil
      simp (maxSteps := 1000000) (disch := omega) only [WS, List.getElem_cons_zero, List.getElem_cons_succ, Option.isNone_some, Option.isNone_none, List.getD_cons_zero, List.getD_cons_succ, I.at, atL, atO, atP, evp, evs, retV, ↓reduceIte, Nat.reduceEqDiff, reduceCtorEq, AS, t0, t3, t6, t7, og.sl.Xix iG, og.sl.Xld iG, hgi, w11 i (by omega), e2]
      refine X_bsl (zs := [mb (11 + 7 * i)]) (by rfl) (by rfl) fun e3 w5 o3 hB => ?_
      have hG := hG.up hF hB
      have og := og.up hB
      have hcur := hG.gr i hil
      have hif : (if i < i then 70 else if i = i then c else 0) = c := by rw [if_neg (by omega), if_pos rfl]
      rw [hif] at hcur
      simp (maxSteps := 1000000) (disch := omega) only [WS, List.getElem_cons_zero, List.getElem_cons_succ, Option.isNone_some, Option.isNone_none, List.getD_cons_zero, List.getD_cons_succ, I.at, atL, atO, atP, evp, evs, retV, ↓reduceIte, Nat.reduceEqDiff, reduceCtorEq, AS, t0, t3, t6, t7]
      refine Ow.Xapp2 hcur o3.sl hG.sz (by simp only [List.length_append, List.length_replicate, List.length_cons, List.length_nil, maxBytes]; omega) (by simp only [List.length_append, List.length_replicate, List.length_cons, List.length_nil]; omega) fun g' w6 og' hgr => ?_
      have hG6 := hG.app (i := i) (g' := g') (m := [mb (11 + 7 * i)]) hF hDH hDg hil (by rw [hif]; exact og') hgr
      have hgsne : ∀ b, Fw.blk gs = some b → Fw.blk (Gv i) ≠ some b := fun b hb e => by
        rw [hgb] at hb; cases hb
        rcases hG.gk i gsb hil e with h1 | h1
        · have := (hHb i gsb hil h1).1; omega
        · omega
      have og6 := og.keep hgr.keep hgsne
      obtain ⟨x, rfl⟩ : ∃ x : Hd, g' = Cell.v x := ⟨hd g', og'.sl.hd.1.symm⟩
      simp (maxSteps := 1000000) (disch := omega) only [WS, List.getElem_cons_zero, List.getElem_cons_succ, Option.isNone_some, Option.isNone_none, List.getD_cons_zero, List.getD_cons_succ, I.at, atL, atO, atP, evp, evs, retV, ↓reduceIte, Nat.reduceEqDiff, reduceCtorEq, AS, t0, t3, t6, t7, og6.sl.Xix iG]
      refine og6.Xst iG x fun w7 og7 hg7 => ?_
      rw [hgb] at hg7
      have hG7 := hG6.st hF hDgs hg7
      simp (maxSteps := 1000000) (disch := omega) only [WS, List.getElem_cons_zero, List.getElem_cons_succ, Option.isNone_some, Option.isNone_none, List.getD_cons_zero, List.getD_cons_succ, I.at, atL, atO, atP, evp, evs, retV, ↓reduceIte, Nat.reduceEqDiff, reduceCtorEq, AS, t0, t3, t6, t7]
      refine ⟨⟨c + 1, G.set i x, fun j => if j = i then Cell.v x else Gv j, rfl, by omega, og7, by simpa using hGl, fun j hj => ?_, ?_⟩, by omega⟩
      · show _ = if j = i then Cell.v x else Gv j
        rw [Hj_set iG]
        by_cases hji : j = i
        · rw [if_pos hji, if_pos hji]
        · rw [if_neg hji, if_neg hji]; exact hGv j hj
      · have hE : (fun j => if j = i then (R'.getD i [] ++ List.replicate (if i < i then 70 else if i = i then c else 0) (mb (11 + 7 * i))) ++ [mb (11 + 7 * i)] else R'.getD j [] ++ List.replicate (if j < i then 70 else if j = i then c else 0) (mb (11 + 7 * j))) = fun j => R'.getD j [] ++ List.replicate (if j < i then 70 else if j = i then c + 1 else 0) (mb (11 + 7 * j)) := by
          funext j
          by_cases hji : j = i
          · subst hji
            rw [if_pos rfl, hif, List.append_assoc, ← List.replicate_succ', if_neg (by omega), if_pos rfl]
          · rw [if_neg hji, if_neg hji, if_neg hji]
        rw [hE] at hG7
        exact hG7
    · obtain rfl : c = 70 := by omega
      simp (maxSteps := 1000000) (disch := omega) only [WS, List.getElem_cons_zero, List.getElem_cons_succ, Option.isNone_some, Option.isNone_none, List.getD_cons_zero, List.getD_cons_succ, I.at, atL, atO, atP, evp, evs, retV, ↓reduceIte, Nat.reduceEqDiff, reduceCtorEq, AS, t0, t3, t6, t7, show decide (((70 : Nat) : Int) < 70) = false from rfl]
      refine ⟨⟨i + 1, G, Gv, rfl, by omega, og, hGl, hGv, ?_⟩, by omega⟩
      have hE : (fun j => R'.getD j [] ++ List.replicate (if j < i then 70 else if j = i then 70 else 0) (mb (11 + 7 * j))) = fun j => R'.getD j [] ++ List.replicate (if j < i + 1 then 70 else if j = i + 1 then 0 else 0) (mb (11 + 7 * j)) := by
        funext j
        by_cases hji : j < i
        · rw [if_pos hji, if_pos (by omega)]
        · rw [if_neg hji]
          by_cases hj2 : j = i
          · rw [if_pos hj2, if_pos (by omega)]
          · rw [if_neg hj2, if_neg (by omega)]; split <;> rfl
      rw [hE] at hG
      exact hG
  · obtain rfl : i = hs.length := by omega
    simp (maxSteps := 1000000) (disch := omega) only [WS, List.getElem_cons_zero, List.getElem_cons_succ, Option.isNone_some, Option.isNone_none, List.getD_cons_zero, List.getD_cons_succ, I.at, atL, atO, atP, evp, evs, retV, ↓reduceIte, Nat.reduceEqDiff, reduceCtorEq, AS, t0, t3, t6, hG.rl.Xlen]
    refine loop_of (fun t w' => t 0 = rows ∧ t 3 = gs ∧ w' = w3 ∧ ∃ i : Nat, t 8 = .int .i64 (i : Int) ∧ i ≤ hs.length) (fun t _ => hs.length - (toI (t 8)).toNat) ⟨by simp only [WS, List.getElem_cons_zero, List.getElem_cons_succ, Option.isNone_some, Option.isNone_none, List.getD_cons_zero, List.getD_cons_succ, I.at, atL, atO, atP, evp, evs, retV, ↓reduceIte, Nat.reduceEqDiff, reduceCtorEq]; exact t0, by simp only [WS, List.getElem_cons_zero, List.getElem_cons_succ, Option.isNone_some, Option.isNone_none, List.getD_cons_zero, List.getD_cons_succ, I.at, atL, atO, atP, evp, evs, retV, ↓reduceIte, Nat.reduceEqDiff, reduceCtorEq]; exact t3, rfl, 0, rfl, by omega⟩ ?_
    clear t0 t3 t6
    rintro t w' ⟨t0, t3, rfl, i, t8, hi⟩
    by_cases hil : i < hs.length
    · have e1 := Hj_eqb hil
      have iG : i < G.length := by omega
      have e2 : Cell.v G[i] = Gv i := by rw [Hj_eqb iG]; exact hGv i hil
      have hH := hG.hr i hil
      have hGi := (hG.gr i hil).sl
      have hli := hlen i hil
      have hni := hne i hil
      have hdi := hdone i hil
      rw [if_pos hil] at hGi
      simp only [hdi] at hH hGi
      generalize hnl : (R.getD i []).length = n at *
      have ln1 : (List.replicate n (mb (10 + 7 * i))).length = n := List.length_replicate
      have ln2 : (List.replicate n (mb (10 + 7 * i)) ++ List.replicate 70 (mb (11 + 7 * i))).length = n + 70 := by simp
      have f1 : IntKind.u8.wrap ((10 + 7 * i : Nat) : Int) = ((mb (10 + 7 * i)).v.toNat : Int) := by rw [wrap_u8 _ (by omega), mb_v _ (by omega)]
      have f2 : IntKind.u8.wrap ((11 + 7 * i : Nat) : Int) = ((mb (11 + 7 * i)).v.toNat : Int) := by rw [wrap_u8 _ (by omega), mb_v _ (by omega)]
      have g1 : ∀ e : Int, decide (e = e) = true := fun e => decide_eq_true rfl
      simp (maxSteps := 1000000) (disch := omega) only [WS, List.getElem_cons_zero, List.getElem_cons_succ, Option.isNone_some, Option.isNone_none, List.getD_cons_zero, List.getD_cons_succ, I.at, atL, atO, atP, evp, evs, retV, ↓reduceIte, Nat.reduceEqDiff, reduceCtorEq, AS, t0, t3, t8, hG.rl.Xlen]
      refine loop_of (fun t w2 => t 0 = rows ∧ t 3 = gs ∧ t 8 = .int .i64 (i : Int) ∧ w2 = w' ∧ ∃ j : Nat, t 9 = .int .i64 (j : Int) ∧ j ≤ n) (fun t _ => n - (toI (t 9)).toNat) ⟨by simp only [WS, List.getElem_cons_zero, List.getElem_cons_succ, Option.isNone_some, Option.isNone_none, List.getD_cons_zero, List.getD_cons_succ, I.at, atL, atO, atP, evp, evs, retV, ↓reduceIte, Nat.reduceEqDiff, reduceCtorEq]; exact t0, by simp only [WS, List.getElem_cons_zero, List.getElem_cons_succ, Option.isNone_some, Option.isNone_none, List.getD_cons_zero, List.getD_cons_succ, I.at, atL, atO, atP, evp, evs, retV, ↓reduceIte, Nat.reduceEqDiff, reduceCtorEq]; exact t3, by simp only [WS, List.getElem_cons_zero, List.getElem_cons_succ, Option.isNone_some, Option.isNone_none, List.getD_cons_zero, List.getD_cons_succ, I.at, atL, atO, atP, evp, evs, retV, ↓reduceIte, Nat.reduceEqDiff, reduceCtorEq]; exact t8, rfl, 0, rfl, by omega⟩ ?_
      clear t0 t3 t8
      rintro t w2 ⟨t0, t3, t8, rfl, j, t9, hj⟩
      by_cases hjn : j < n
      · have i1 : j < (List.replicate n (mb (10 + 7 * i))).length := by omega
        have i2 : j < (List.replicate n (mb (10 + 7 * i)) ++ List.replicate 70 (mb (11 + 7 * i))).length := by omega
        have v1 : (List.replicate n (mb (10 + 7 * i)))[j] = mb (10 + 7 * i) := by simp
        have v2 : (List.replicate n (mb (10 + 7 * i)) ++ List.replicate 70 (mb (11 + 7 * i)))[j] = mb (10 + 7 * i) := by rw [List.getElem_append_left i1, List.getElem_replicate]
        simp (maxSteps := 1000000) (disch := omega) only [WS, List.getElem_cons_zero, List.getElem_cons_succ, Option.isNone_some, Option.isNone_none, List.getD_cons_zero, List.getD_cons_succ, I.at, atL, atO, atP, evp, evs, retV, ↓reduceIte, Nat.reduceEqDiff, reduceCtorEq, AS, t0, t3, t8, t9, hG.rl.Xix hil, hG.rl.Xld hil, e1, hH.Xlen, ln1, hH.Xix i1, hH.Xld i1, v1, cell_e8, w10 i (by omega), f1, g1, og.sl.Xix iG, og.sl.Xld iG, e2, hGi.Xix i2, hGi.Xld i2, v2]
        exact ⟨⟨j + 1, rfl, by omega⟩, by omega⟩
      · obtain rfl : j = n := by omega
        simp (maxSteps := 1000000) (disch := omega) only [WS, List.getElem_cons_zero, List.getElem_cons_succ, Option.isNone_some, Option.isNone_none, List.getD_cons_zero, List.getD_cons_succ, I.at, atL, atO, atP, evp, evs, retV, ↓reduceIte, Nat.reduceEqDiff, reduceCtorEq, AS, t0, t3, t8, t9, hG.rl.Xix hil, hG.rl.Xld hil, e1, hH.Xlen, ln1]
        refine loop_of (fun t u => t 0 = rows ∧ t 3 = gs ∧ t 8 = .int .i64 (i : Int) ∧ u = w2 ∧ ∃ y : Nat, t 10 = .int .i64 (y : Int) ∧ j ≤ y ∧ y ≤ j + 70) (fun t _ => j + 70 - (toI (t 10)).toNat) ⟨by simp only [WS, List.getElem_cons_zero, List.getElem_cons_succ, Option.isNone_some, Option.isNone_none, List.getD_cons_zero, List.getD_cons_succ, I.at, atL, atO, atP, evp, evs, retV, ↓reduceIte, Nat.reduceEqDiff, reduceCtorEq]; exact t0, by simp only [WS, List.getElem_cons_zero, List.getElem_cons_succ, Option.isNone_some, Option.isNone_none, List.getD_cons_zero, List.getD_cons_succ, I.at, atL, atO, atP, evp, evs, retV, ↓reduceIte, Nat.reduceEqDiff, reduceCtorEq]; exact t3, by simp only [WS, List.getElem_cons_zero, List.getElem_cons_succ, Option.isNone_some, Option.isNone_none, List.getD_cons_zero, List.getD_cons_succ, I.at, atL, atO, atP, evp, evs, retV, ↓reduceIte, Nat.reduceEqDiff, reduceCtorEq]; exact t8, rfl, j, rfl, by omega, by omega⟩ ?_
        clear t0 t3 t8 t9
        rintro t u ⟨t0, t3, t8, rfl, y, t10, hy1, hy2⟩
        by_cases hyn : y < j + 70
        · have i2 : y < (List.replicate j (mb (10 + 7 * i)) ++ List.replicate 70 (mb (11 + 7 * i))).length := by omega
          have v2 : (List.replicate j (mb (10 + 7 * i)) ++ List.replicate 70 (mb (11 + 7 * i)))[y] = mb (11 + 7 * i) := by rw [List.getElem_append_right (by rw [List.length_replicate]; omega), List.getElem_replicate]
          simp (maxSteps := 1000000) (disch := omega) only [WS, List.getElem_cons_zero, List.getElem_cons_succ, Option.isNone_some, Option.isNone_none, List.getD_cons_zero, List.getD_cons_succ, I.at, atL, atO, atP, evp, evs, retV, ↓reduceIte, Nat.reduceEqDiff, reduceCtorEq, AS, t0, t3, t8, t10, og.sl.Xix iG, og.sl.Xld iG, e2, hGi.Xlen, ln2, hGi.Xix i2, hGi.Xld i2, v2, cell_e8, w11 i (by omega), f2, g1]
          exact ⟨⟨y + 1, rfl, by omega, by omega⟩, by omega⟩
        · simp (maxSteps := 1000000) (disch := omega) only [WS, List.getElem_cons_zero, List.getElem_cons_succ, Option.isNone_some, Option.isNone_none, List.getD_cons_zero, List.getD_cons_succ, I.at, atL, atO, atP, evp, evs, retV, ↓reduceIte, Nat.reduceEqDiff, reduceCtorEq, AS, t0, t3, t8, t10, og.sl.Xix iG, og.sl.Xld iG, e2, hGi.Xlen, ln2]
          exact ⟨⟨i + 1, rfl, by omega⟩, by omega⟩
    · simp (maxSteps := 1000000) (disch := omega) only [WS, List.getElem_cons_zero, List.getElem_cons_succ, Option.isNone_some, Option.isNone_none, List.getD_cons_zero, List.getD_cons_succ, I.at, atL, atO, atP, evp, evs, retV, ↓reduceIte, Nat.reduceEqDiff, reduceCtorEq, AS, t0, t3, t8, hG.rl.Xlen]
      exact hG.fr
end Go.Proofs.Ytcdagkcchfibjaa.Fw
