import Derived.Test.YtcnabolainmaeaaProg
import Derived.Test.YtcnabolainmaeaaFwTM
import Derived.Test.YtcnabolainmaeaaSS13xM
set_option linter.all false
set_option linter.unusedVariables false
set_option linter.unusedSimpArgs false
set_option maxRecDepth 100000
set_option maxHeartbeats 1000000
namespace Go.Proofs.Ytcnabolainmaeaa.Fw
open Go Go.Fw Go.Proofs
attribute [local irreducible] stepI
def c_culletlaw13_LchMemory : C := .seq (.ops [⟨0, (some 4), none, .mov (.c (.bool false)), []⟩]) (.seq (.seq (.ops [⟨0, (some 29), none, .call (.c (.func (.func 12) #[] #[])) [], []⟩, ⟨1, (some 30), none, .un .not (.t 29), []⟩]) (.ite (.t 30) (.seq (.ops [⟨0, (some 4), none, .mov (.c (.bool false)), []⟩]) .ret) .skip)) (.seq (.seq (.ops [⟨0, (some 31), none, .mov (.t 1), []⟩, ⟨1, (some 32), none, .len (.t 31), []⟩, ⟨2, (some 33), none, .bin .gtr (.t 32) (.c (.int .i64 300)), []⟩, ⟨3, (some 34), none, .mov (.t 33), []⟩, ⟨4, (some 35), (some (34, false)), .mov (.t 0), []⟩, ⟨5, (some 36), (some (34, false)), .bin .lss (.t 35) (.c (.int .i64 6)), []⟩, ⟨6, (some 37), none, .pick (.t 34) (.c (.bool true)) (.t 36), []⟩, ⟨7, (some 38), none, .mov (.t 37), []⟩, ⟨8, (some 39), (some (38, false)), .mov (.t 0), []⟩, ⟨9, (some 40), (some (38, false)), .bin .gtr (.t 39) (.c (.int .i64 8)), []⟩, ⟨10, (some 41), none, .pick (.t 38) (.c (.bool true)) (.t 40), []⟩]) (.ite (.t 41) (.seq (.ops [⟨0, (some 4), none, .mov (.c (.bool true)), []⟩]) .ret) .skip)) (.seq (.ops [⟨0, (some 42), none, .mov (.t 1), []⟩, ⟨1, (some 43), none, .call (.c (.func (.func 19) #[] #[])) [.t 42], []⟩, ⟨2, (some 44), none, .bsl 22 8 [.int .u16 0] [(0, (1, .c (.int .u16 91))), (1, (1, .c (.int .u16 92))), (2, (1, .c (.int .u16 93))), (3, (1, .c (.int .u16 94))), (4, (1, .c (.int .u16 95))), (5, (1, .c (.int .u16 96))), (6, (1, .c (.int .u16 97))), (7, (1, .c (.int .u16 98)))], []⟩, ⟨3, (some 45), none, .app 22 2 [.int .u16 0] (.t 43) (.t 44), []⟩, ⟨4, (some 5), none, .mov (.t 45), []⟩]) (.seq (.ops [⟨0, (some 46), none, .mov (.t 5), []⟩, ⟨1, (some 47), none, .mov (.t 1), []⟩, ⟨2, (some 48), none, .len (.t 47), []⟩, ⟨3, (some 49), none, .slc 1 (.t 46) none (some (.t 48)) none, []⟩, ⟨4, (some 6), none, .mov (.t 49), []⟩]) (.seq (.ops [⟨0, (some 50), none, .mov (.t 5), []⟩, ⟨1, (some 51), none, .call (.c (.func (.func 19) #[] #[])) [.t 50], []⟩, ⟨2, (some 7), none, .mov (.t 51), []⟩]) (.seq (.ops [⟨0, (some 53), none, .mov (.t 0), []⟩, ⟨1, (some 54), none, .mov (.t 6), []⟩, ⟨2, (some 55), none, .call (.c (.func (.func 27) #[] #[])) [.t 53, .t 54], []⟩, ⟨3, (some 52), none, .mov (.t 55), []⟩, ⟨4, (some 56), none, .ext (.t 52) 0, []⟩, ⟨5, (some 57), none, .ext (.t 52) 1, []⟩, ⟨6, (some 8), none, .mov (.t 56), []⟩, ⟨7, (some 9), none, .mov (.t 57), []⟩]) (.seq (.ops [⟨0, (some 58), none, .mov (.t 8), []⟩, ⟨1, (some 59), none, .call (.c (.func (.func 19) #[] #[])) [.t 58], []⟩, ⟨2, (some 10), none, .mov (.t 59), []⟩]) (.seq (.ops [⟨0, (some 61), none, .mov (.t 0), []⟩, ⟨1, (some 62), none, .mov (.t 6), []⟩, ⟨2, (some 63), none, .call (.c (.func (.func 27) #[] #[])) [.t 61, .t 62], []⟩, ⟨3, (some 60), none, .mov (.t 63), []⟩, ⟨4, (some 64), none, .ext (.t 60) 0, []⟩, ⟨5, (some 65), none, .ext (.t 60) 1, []⟩, ⟨6, (some 11), none, .mov (.t 64), []⟩, ⟨7, (some 12), none, .mov (.t 65), []⟩]) (.seq (.seq (.ops [⟨0, (some 66), none, .mov (.t 8), []⟩, ⟨1, (some 67), none, .mov (.t 10), []⟩, ⟨2, (some 68), none, .call (.c (.func (.func 22) #[] #[])) [.t 66, .t 67], []⟩, ⟨3, (some 69), none, .un .not (.t 68), []⟩, ⟨4, (some 70), none, .mov (.t 69), []⟩, ⟨5, (some 71), (some (70, false)), .mov (.t 11), []⟩, ⟨6, (some 72), (some (70, false)), .mov (.t 10), []⟩, ⟨7, (some 73), (some (70, false)), .call (.c (.func (.func 22) #[] #[])) [.t 71, .t 72], []⟩, ⟨8, (some 74), (some (70, false)), .un .not (.t 73), []⟩, ⟨9, (some 75), none, .pick (.t 70) (.c (.bool true)) (.t 74), []⟩, ⟨10, (some 76), none, .mov (.t 75), []⟩, ⟨11, (some 77), (some (76, false)), .mov (.t 5), []⟩, ⟨12, (some 78), (some (76, false)), .mov (.t 7), []⟩, ⟨13, (some 79), (some (76, false)), .call (.c (.func (.func 22) #[] #[])) [.t 77, .t 78], []⟩, ⟨14, (some 80), (some (76, false)), .un .not (.t 79), []⟩, ⟨15, (some 81), none, .pick (.t 76) (.c (.bool true)) (.t 80), []⟩]) (.ite (.t 81) (.seq (.ops [⟨0, (some 4), none, .mov (.c (.bool false)), []⟩]) .ret) .skip)) (.seq (.seq (.ops [⟨0, (some 13), none, .mov (.c (.int .i64 0)), []⟩]) (.block 0 (.loop (.seq (.seq (.ops [⟨0, (some 82), none, .mov (.t 13), []⟩, ⟨1, (some 83), none, .mov (.t 6), []⟩, ⟨2, (some 84), none, .len (.t 83), []⟩, ⟨3, (some 85), none, .bin .lss (.t 82) (.t 84), []⟩]) (.ite (.t 85) .skip (.exit 0))) (.seq (.block 1 (.ops [⟨0, (some 88), none, .mov (.t 6), []⟩, ⟨1, (some 89), none, .mov (.t 13), []⟩, ⟨2, (some 90), none, .mov (.t 6), []⟩, ⟨3, (some 91), none, .mov (.t 13), []⟩, ⟨4, (some 92), none, .ixs 1 (.t 90) (.t 91), []⟩, ⟨5, (some 93), none, .ld (.t 92), []⟩, ⟨6, (some 94), none, .bin .mul (.t 93) (.c (.int .u16 3)), []⟩, ⟨7, (some 95), none, .bin .add (.t 94) (.c (.int .u16 1)), []⟩, ⟨8, (some 96), none, .ixs 1 (.t 88) (.t 89), []⟩, ⟨9, none, none, .st (.t 96) (.t 95), []⟩])) (.ops [⟨0, (some 86), none, .mov (.t 13), []⟩, ⟨1, (some 87), none, .bin .add (.t 86) (.c (.int .i64 1)), []⟩, ⟨2, (some 13), none, .mov (.t 87), []⟩])))))) (.seq (.ops [⟨0, (some 97), none, .mov (.t 5), []⟩, ⟨1, (some 98), none, .call (.c (.func (.func 19) #[] #[])) [.t 97], []⟩, ⟨2, (some 14), none, .mov (.t 98), []⟩]) (.seq (.ops [⟨0, (some 100), none, .mov (.t 0), []⟩, ⟨1, (some 101), none, .mov (.t 6), []⟩, ⟨2, (some 102), none, .call (.c (.func (.func 27) #[] #[])) [.t 100, .t 101], []⟩, ⟨3, (some 99), none, .mov (.t 102), []⟩, ⟨4, (some 103), none, .ext (.t 99) 0, []⟩, ⟨5, (some 104), none, .ext (.t 99) 1, []⟩, ⟨6, (some 15), none, .mov (.t 103), []⟩, ⟨7, (some 16), none, .mov (.t 104), []⟩]) (.seq (.ops [⟨0, (some 106), none, .mov (.t 0), []⟩, ⟨1, (some 107), none, .mov (.t 6), []⟩, ⟨2, (some 108), none, .call (.c (.func (.func 19) #[] #[])) [.t 107], []⟩, ⟨3, (some 109), none, .call (.c (.func (.func 27) #[] #[])) [.t 106, .t 108], []⟩, ⟨4, (some 105), none, .mov (.t 109), []⟩, ⟨5, (some 110), none, .ext (.t 105) 0, []⟩, ⟨6, (some 111), none, .ext (.t 105) 1, []⟩, ⟨7, (some 17), none, .mov (.t 110), []⟩, ⟨8, (some 18), none, .mov (.t 111), []⟩]) (.seq (.seq (.ops [⟨0, (some 112), none, .mov (.t 15), []⟩, ⟨1, (some 113), none, .mov (.t 17), []⟩, ⟨2, (some 114), none, .call (.c (.func (.func 22) #[] #[])) [.t 112, .t 113], []⟩, ⟨3, (some 115), none, .un .not (.t 114), []⟩, ⟨4, (some 116), none, .mov (.t 115), []⟩, ⟨5, (some 117), (some (116, false)), .mov (.t 8), []⟩, ⟨6, (some 118), (some (116, false)), .mov (.t 10), []⟩, ⟨7, (some 119), (some (116, false)), .call (.c (.func (.func 22) #[] #[])) [.t 117, .t 118], []⟩, ⟨8, (some 120), (some (116, false)), .un .not (.t 119), []⟩, ⟨9, (some 121), none, .pick (.t 116) (.c (.bool true)) (.t 120), []⟩, ⟨10, (some 122), none, .mov (.t 121), []⟩, ⟨11, (some 123), (some (122, false)), .mov (.t 11), []⟩, ⟨12, (some 124), (some (122, false)), .mov (.t 10), []⟩, ⟨13, (some 125), (some (122, false)), .call (.c (.func (.func 22) #[] #[])) [.t 123, .t 124], []⟩, ⟨14, (some 126), (some (122, false)), .un .not (.t 125), []⟩, ⟨15, (some 127), none, .pick (.t 122) (.c (.bool true)) (.t 126), []⟩, ⟨16, (some 128), none, .mov (.t 127), []⟩, ⟨17, (some 129), (some (128, false)), .mov (.t 5), []⟩, ⟨18, (some 130), (some (128, false)), .mov (.t 14), []⟩, ⟨19, (some 131), (some (128, false)), .call (.c (.func (.func 22) #[] #[])) [.t 129, .t 130], []⟩, ⟨20, (some 132), (some (128, false)), .un .not (.t 131), []⟩, ⟨21, (some 133), none, .pick (.t 128) (.c (.bool true)) (.t 132), []⟩]) (.ite (.t 133) (.seq (.ops [⟨0, (some 4), none, .mov (.c (.bool false)), []⟩]) .ret) .skip)) (.seq (.ops [⟨0, (some 134), none, .mov (.t 1), []⟩, ⟨1, (some 135), none, .len (.t 134), []⟩, ⟨2, (some 136), none, .cnv .u16 (.t 135), []⟩, ⟨3, (some 137), none, .bin .mul (.t 136) (.c (.int .u16 257)), []⟩, ⟨4, (some 19), none, .mov (.t 137), []⟩]) (.seq (.ops [⟨0, (some 139), none, .mov (.t 6), []⟩, ⟨1, (some 140), none, .mov (.t 19), []⟩, ⟨2, (some 141), none, .call (.c (.func (.func 26) #[] #[])) [.t 139, .t 140], []⟩, ⟨3, (some 138), none, .mov (.t 141), []⟩, ⟨4, (some 142), none, .ext (.t 138) 0, []⟩, ⟨5, (some 143), none, .ext (.t 138) 1, []⟩, ⟨6, (some 20), none, .mov (.t 142), []⟩, ⟨7, (some 21), none, .mov (.t 143), []⟩]) (.seq (.ops [⟨0, (some 145), none, .mov (.t 6), []⟩, ⟨1, (some 146), none, .call (.c (.func (.func 19) #[] #[])) [.t 145], []⟩, ⟨2, (some 147), none, .mov (.t 19), []⟩, ⟨3, (some 148), none, .call (.c (.func (.func 26) #[] #[])) [.t 146, .t 147], []⟩, ⟨4, (some 144), none, .mov (.t 148), []⟩, ⟨5, (some 149), none, .ext (.t 144) 0, []⟩, ⟨6, (some 150), none, .ext (.t 144) 1, []⟩, ⟨7, (some 22), none, .mov (.t 149), []⟩, ⟨8, (some 23), none, .mov (.t 150), []⟩]) (.seq (.seq (.ops [⟨0, (some 151), none, .mov (.t 20), []⟩, ⟨1, (some 152), none, .mov (.t 22), []⟩, ⟨2, (some 153), none, .bin .neq (.t 151) (.t 152), []⟩, ⟨3, (some 154), none, .mov (.t 153), []⟩, ⟨4, (some 155), (some (154, false)), .mov (.t 5), []⟩, ⟨5, (some 156), (some (154, false)), .mov (.t 14), []⟩, ⟨6, (some 157), (some (154, false)), .call (.c (.func (.func 22) #[] #[])) [.t 155, .t 156], []⟩, ⟨7, (some 158), (some (154, false)), .un .not (.t 157), []⟩, ⟨8, (some 159), none, .pick (.t 154) (.c (.bool true)) (.t 158), []⟩]) (.ite (.t 159) (.seq (.ops [⟨0, (some 4), none, .mov (.c (.bool false)), []⟩]) .ret) .skip)) (.seq (.seq (.ops [⟨0, (some 24), none, .mov (.c (.int .i64 0)), []⟩]) (.block 2 (.loop (.seq (.seq (.ops [⟨0, (some 160), none, .mov (.t 24), []⟩, ⟨1, (some 161), none, .mov (.t 6), []⟩, ⟨2, (some 162), none, .len (.t 161), []⟩, ⟨3, (some 163), none, .bin .lss (.t 160) (.t 162), []⟩]) (.ite (.t 163) .skip (.exit 2))) (.seq (.block 3 (.ops [⟨0, (some 166), none, .mov (.t 6), []⟩, ⟨1, (some 167), none, .mov (.t 24), []⟩, ⟨2, (some 168), none, .mov (.t 6), []⟩, ⟨3, (some 169), none, .mov (.t 24), []⟩, ⟨4, (some 170), none, .ixs 1 (.t 168) (.t 169), []⟩, ⟨5, (some 171), none, .ld (.t 170), []⟩, ⟨6, (some 172), none, .mov (.t 24), []⟩, ⟨7, (some 173), none, .cnv .u16 (.t 172), []⟩, ⟨8, (some 174), none, .bin .xor (.t 171) (.t 173), []⟩, ⟨9, (some 175), none, .ixs 1 (.t 166) (.t 167), []⟩, ⟨10, none, none, .st (.t 175) (.t 174), []⟩])) (.ops [⟨0, (some 164), none, .mov (.t 24), []⟩, ⟨1, (some 165), none, .bin .add (.t 164) (.c (.int .i64 1)), []⟩, ⟨2, (some 24), none, .mov (.t 165), []⟩])))))) (.seq (.ops [⟨0, (some 176), none, .mov (.t 5), []⟩, ⟨1, (some 177), none, .call (.c (.func (.func 19) #[] #[])) [.t 176], []⟩, ⟨2, (some 14), none, .mov (.t 177), []⟩]) (.seq (.ops [⟨0, (some 179), none, .mov (.t 6), []⟩, ⟨1, (some 180), none, .mov (.t 19), []⟩, ⟨2, (some 181), none, .call (.c (.func (.func 26) #[] #[])) [.t 179, .t 180], []⟩, ⟨3, (some 178), none, .mov (.t 181), []⟩, ⟨4, (some 182), none, .ext (.t 178) 0, []⟩, ⟨5, (some 183), none, .ext (.t 178) 1, []⟩, ⟨6, (some 20), none, .mov (.t 182), []⟩]) (.seq (.ops [⟨0, (some 185), none, .mov (.t 6), []⟩, ⟨1, (some 186), none, .call (.c (.func (.func 19) #[] #[])) [.t 185], []⟩, ⟨2, (some 187), none, .mov (.t 19), []⟩, ⟨3, (some 188), none, .call (.c (.func (.func 26) #[] #[])) [.t 186, .t 187], []⟩, ⟨4, (some 184), none, .mov (.t 188), []⟩, ⟨5, (some 189), none, .ext (.t 184) 0, []⟩, ⟨6, (some 190), none, .ext (.t 184) 1, []⟩, ⟨7, (some 22), none, .mov (.t 189), []⟩]) (.seq (.seq (.ops [⟨0, (some 191), none, .mov (.t 20), []⟩, ⟨1, (some 192), none, .mov (.t 22), []⟩, ⟨2, (some 193), none, .bin .neq (.t 191) (.t 192), []⟩, ⟨3, (some 194), none, .mov (.t 193), []⟩, ⟨4, (some 195), (some (194, false)), .mov (.t 5), []⟩, ⟨5, (some 196), (some (194, false)), .mov (.t 14), []⟩, ⟨6, (some 197), (some (194, false)), .call (.c (.func (.func 22) #[] #[])) [.t 195, .t 196], []⟩, ⟨7, (some 198), (some (194, false)), .un .not (.t 197), []⟩, ⟨8, (some 199), none, .pick (.t 194) (.c (.bool true)) (.t 198), []⟩]) (.ite (.t 199) (.seq (.ops [⟨0, (some 4), none, .mov (.c (.bool false)), []⟩]) .ret) .skip)) (.seq (.ops [⟨0, (some 201), none, .mov (.t 1), []⟩, ⟨1, (some 202), none, .len (.t 201), []⟩, ⟨2, (some 203), none, .bin .rem (.t 202) (.c (.int .i64 17)), []⟩, ⟨3, (some 204), none, .call (.c (.func (.func 14) #[] #[])) [.t 203], []⟩, ⟨4, (some 200), none, .mov (.t 204), []⟩, ⟨5, (some 205), none, .ext (.t 200) 0, []⟩, ⟨6, (some 206), none, .ext (.t 200) 1, []⟩, ⟨7, (some 25), none, .mov (.t 205), []⟩, ⟨8, (some 26), none, .mov (.t 206), []⟩]) (.seq (.ops [⟨0, (some 208), none, .mov (.t 1), []⟩, ⟨1, (some 209), none, .len (.t 208), []⟩, ⟨2, (some 210), none, .bin .rem (.t 209) (.c (.int .i64 17)), []⟩, ⟨3, (some 211), none, .call (.c (.func (.func 14) #[] #[])) [.t 210], []⟩, ⟨4, (some 207), none, .mov (.t 211), []⟩, ⟨5, (some 212), none, .ext (.t 207) 0, []⟩, ⟨6, (some 213), none, .ext (.t 207) 1, []⟩, ⟨7, (some 27), none, .mov (.t 212), []⟩, ⟨8, (some 28), none, .mov (.t 213), []⟩]) (.seq (.seq (.ops [⟨0, (some 214), none, .mov (.t 25), []⟩, ⟨1, (some 215), none, .mov (.t 27), []⟩, ⟨2, (some 216), none, .call (.c (.func (.func 22) #[] #[])) [.t 214, .t 215], []⟩, ⟨3, (some 217), none, .un .not (.t 216), []⟩]) (.ite (.t 217) (.seq (.ops [⟨0, (some 4), none, .mov (.c (.bool false)), []⟩]) .ret) .skip)) (.seq (.ops [⟨0, (some 218), none, .mov (.t 8), []⟩, ⟨1, (some 219), none, .mov (.t 11), []⟩, ⟨2, (some 220), none, .mov (.t 15), []⟩, ⟨3, (some 221), none, .mov (.t 17), []⟩, ⟨4, (some 222), none, .mov (.t 25), []⟩, ⟨5, (some 223), none, .mov (.t 27), []⟩, ⟨6, (some 224), none, .bsl 27 6 [.slice none 0 0] [(0, (1, .t 218)), (1, (1, .t 219)), (2, (1, .t 220)), (3, (1, .t 221)), (4, (1, .t 222)), (5, (1, .t 223))], []⟩, ⟨7, (some 225), none, .call (.c (.func (.func 28) #[] #[])) [.t 224], []⟩, ⟨8, (some 226), none, .mov (.t 225), []⟩, ⟨9, (some 227), (some (226, true)), .mov (.t 5), []⟩, ⟨10, (some 228), (some (226, true)), .mov (.t 14), []⟩, ⟨11, (some 229), (some (226, true)), .call (.c (.func (.func 22) #[] #[])) [.t 227, .t 228], []⟩, ⟨12, (some 230), none, .pick (.t 226) (.t 229) (.c (.bool false)), []⟩, ⟨13, (some 4), none, .mov (.t 230), []⟩]) .ret)))))))))))))))))))))))))))
attribute [irreducible] c_culletlaw13_LchMemory
theorem run_culletlaw13_LchMemory {args : List Value} {w : World} {K : Value → World → Prop} (hn : args.length ≤ 231) (h : WP Try.prog c_culletlaw13_LchMemory (endQ [.t 4] K) (initT args) w) : CallV Try.prog 7 args w K :=
  call_of follows Try.func7 (by kernel_rfl) (by kernel_rfl) hn h
end Go.Proofs.Ytcnabolainmaeaa.Fw
namespace Go.Proofs.Ytcnabolainmaeaa.Fw
open Go Go.Fw
def AR (k : Int) (l m : List (El 16)) : Prop :=
  (∃ q, l.length = 2 ^ q ∧ m.length = 2 ^ q ∧ ((k = 6 ∧ ∀ j, j < 2 ^ q → (co m).c j = dX q (co l).c j) ∨ (k = 7 ∧ co m = mP q (co l).c (2 ^ q)) ∨ (k = 8 ∧ mP q (co m).c (2 ^ q) = co l))) ∨ ((¬ (1 ≤ l.length ∧ l.length ≤ 65536 ∧ l.length &&& (l.length - 1) = 0) ∨ (k ≠ 6 ∧ ¬ (1 ≤ l.length ∧ l.length ≤ 256 ∧ l.length &&& (l.length - 1) = 0))) ∧ m = [])
theorem AR.uniq {k : Int} {l m m' : List (El 16)} (hl : l.length ≤ 256 ∨ k = 6 ∧ l.length ≤ 65536 ∨ True) (h : AR k l m) (h' : AR k l m') (h2 : m = [] ↔ m' = []) : m = m' := by
  rcases h with ⟨q, e1, e2, h⟩ | ⟨-, h⟩
  · rcases h' with ⟨q', e1', e2', h'⟩ | ⟨-, h'⟩
    · obtain rfl : q' = q := (Nat.pow_right_inj (a := 2) (by omega)).1 (e1'.symm.trans e1)
      rcases h with ⟨hk, h⟩ | ⟨hk, h⟩ | ⟨hk, h⟩ <;> rcases h' with ⟨hk', h'⟩ | ⟨hk', h'⟩ | ⟨hk', h'⟩ <;> first | omega | skip
      · exact co_ext (e2.trans e2'.symm) (Ps.ext fun u => by
          by_cases hu : u < 2 ^ q'
          · rw [h u hu, h' u hu]
          · rw [co_dg m u (by omega), co_dg m' u (by omega)])
      · exact co_ext (e2.trans e2'.symm) (h.trans h'.symm)
      · exact list_of_mP e2 e2' (h.trans h'.symm)
    · rw [h', h2.2 h']
  · rw [h, h2.1 h]
theorem culletlaw13_asked_spec (w : World) (k : Int) (hk : 6 ≤ k ∧ k ≤ 8) (s : Value) (l : List (El 16)) (h : Sl w s l) (hb : l.length ≤ 300) : CallV Try.prog 27 [.int .i64 k, s] w fun v w' => ∃ sv m e, v = .tuple #[sv, .int .i64 e] ∧ Ow w.heap.size w' sv m ∧ AR k l m ∧ m.length ≤ 300 ∧ (m = [] ↔ ¬ (1 ≤ l.length ∧ l.length ≤ (if k = 6 then 65536 else 256) ∧ l.length &&& (l.length - 1) = 0)) ∧ RowKit.Below w.heap.size w w' := by
  have hpow : ∀ q : Nat, ∀ m : List (El 16), m.length = 2 ^ q → m ≠ [] := fun q m hm e => by have := Nat.two_pow_pos q; rw [e] at hm; simp at hm; omega
  have hg : ∀ q N : Nat, l.length = 2 ^ q → l.length ≤ N → (1 ≤ l.length ∧ l.length ≤ N ∧ l.length &&& (l.length - 1) = 0) := fun q N hq hN => ⟨by have := Nat.two_pow_pos q; omega, hN, by rw [hq]; exact and_pred_pow q⟩
  have hk' : k = 6 ∨ k = 7 ∨ k = 8 := by omega
  rcases hk' with rfl | rfl | rfl
  · refine (culletlaw13_asked6_spec w s l h (by omega)).mono ?_
    rintro _ w' ⟨hB, ⟨q, hq, hlq, sv, m, rfl, om, ml, mc⟩ | ⟨hbad, rfl⟩⟩
    · exact ⟨sv, m, 0, rfl, om, Or.inl ⟨q, hlq, ml, Or.inl ⟨rfl, mc⟩⟩, by omega, ⟨fun e => absurd e (hpow q m ml), fun e => absurd (hg q _ hlq (by rw [if_pos rfl]; omega)) e⟩, hB⟩
    · exact ⟨_, [], 130, rfl, Ow.nil _ _, Or.inr ⟨Or.inl hbad, rfl⟩, by simp, ⟨fun _ => by rw [if_pos rfl]; exact hbad, fun _ => rfl⟩, hB⟩
  · refine (culletlaw13_asked7_spec w s l h (by omega)).mono ?_
    rintro _ w' ⟨hB, ⟨q, hq, hlq, sv, m, rfl, om, ml, mc⟩ | ⟨hbad, rfl⟩⟩
    · exact ⟨sv, m, 0, rfl, om, Or.inl ⟨q, hlq, ml, Or.inr (Or.inl ⟨rfl, mc⟩)⟩, by omega, ⟨fun e => absurd e (hpow q m ml), fun e => absurd (hg q _ hlq (by rw [if_neg (by decide), hlq]; exact Nat.pow_le_pow_right (by omega) hq)) e⟩, hB⟩
    · exact ⟨_, [], 130, rfl, Ow.nil _ _, Or.inr ⟨Or.inr ⟨by decide, hbad⟩, rfl⟩, by simp, ⟨fun _ => by rw [if_neg (by decide)]; exact hbad, fun _ => rfl⟩, hB⟩
  · refine (culletlaw13_asked8_spec w s l h (by omega)).mono ?_
    rintro _ w' ⟨hB, ⟨q, hq, hlq, sv, m, rfl, om, ml, mc⟩ | ⟨hbad, rfl⟩⟩
    · exact ⟨sv, m, 0, rfl, om, Or.inl ⟨q, hlq, ml, Or.inr (Or.inr ⟨rfl, mc⟩)⟩, by omega, ⟨fun e => absurd e (hpow q m ml), fun e => absurd (hg q _ hlq (by rw [if_neg (by decide), hlq]; exact Nat.pow_le_pow_right (by omega) hq)) e⟩, hB⟩
    · exact ⟨_, [], 130, rfl, Ow.nil _ _, Or.inr ⟨Or.inr ⟨by decide, hbad⟩, rfl⟩, by simp, ⟨fun _ => by rw [if_neg (by decide)]; exact hbad, fun _ => rfl⟩, hB⟩
theorem u16_el (n : Int) : ∃ y : El 16, IntKind.u16.wrap n = (y.v.toNat : Int) := by
  have h1 : 0 ≤ n % 65536 := Int.emod_nonneg _ (by decide)
  have h2 : n % 65536 < 65536 := Int.emod_lt_of_pos _ (by decide)
  refine ⟨e16 (n % 65536).toNat, ?_⟩
  rw [e16_v _ (by omega)]
  have e : IntKind.u16.wrap n = n % 65536 := by
    show (if (false && decide (n % 65536 ≥ 32768)) = true then n % 65536 - 65536 else n % 65536) = _
    rfl
  rw [e]; omega
theorem fill6 (h0 h1 h2 h3 h4 h5 : Hd) : fillL (repL [.slice none 0 0] 6) [(0, 1, Cell.v h0), (1, 1, Cell.v h1), (2, 1, Cell.v h2), (3, 1, Cell.v h3), (4, 1, Cell.v h4), (5, 1, Cell.v h5)] = some [Cell.v h0, Cell.v h1, Cell.v h2, Cell.v h3, Cell.v h4, Cell.v h5] := by kernel_rfl
set_option maxHeartbeats 40000000 in
theorem culletlaw13_LchMemory_spec (w : World) (k : Int) (s : Value) (l : List (El 16)) (h : Sl w s l) (hb : l.length ≤ 70368744175616) :
    CallV Try.prog 7 [.int .i64 k, s] w fun v w' => v = .bool true ∧ RowKit.Below w.heap.size w w' := by
  refine run_culletlaw13_LchMemory (by simp) ?_
  simp only [c_culletlaw13_LchMemory, WS, List.getElem_cons_zero, List.getElem_cons_succ, Option.isNone_some, Option.isNone_none, List.getD_cons_zero, List.getD_cons_succ, I.at, atL, atO, atP, evp, evs, retV, ↓reduceIte, Nat.reduceEqDiff, reduceCtorEq]
  refine X_call0 ((culletlaw13_awake_spec w).mono ?_)
  rintro _ w1 ⟨rfl, hB⟩
  have B := hB
  have h := h.up hB
  clear hB
  by_cases h3 : 300 < l.length
  · simp (maxSteps := 1000000) (disch := omega) only [WS, List.getElem_cons_zero, List.getElem_cons_succ, Option.isNone_some, Option.isNone_none, List.getD_cons_zero, List.getD_cons_succ, I.at, atL, atO, atP, evp, evs, retV, ↓reduceIte, Nat.reduceEqDiff, reduceCtorEq, AS, h.Xlen]
    exact B
  by_cases hk6 : k < 6
  · simp (maxSteps := 1000000) (disch := omega) only [WS, List.getElem_cons_zero, List.getElem_cons_succ, Option.isNone_some, Option.isNone_none, List.getD_cons_zero, List.getD_cons_succ, I.at, atL, atO, atP, evp, evs, retV, ↓reduceIte, Nat.reduceEqDiff, reduceCtorEq, AS, h.Xlen]
    exact B
  by_cases hk8 : 8 < k
  · simp (maxSteps := 1000000) (disch := omega) only [WS, List.getElem_cons_zero, List.getElem_cons_succ, Option.isNone_some, Option.isNone_none, List.getD_cons_zero, List.getD_cons_succ, I.at, atL, atO, atP, evp, evs, retV, ↓reduceIte, Nat.reduceEqDiff, reduceCtorEq, AS, h.Xlen]
    exact B
  have hk : 6 ≤ k ∧ k ≤ 8 := ⟨by omega, by omega⟩
  obtain ⟨n, hn⟩ : ∃ n, l.length = n := ⟨_, rfl⟩
  have hn3 : n ≤ 300 := by omega
  simp (maxSteps := 1000000) (disch := omega) only [WS, List.getElem_cons_zero, List.getElem_cons_succ, Option.isNone_some, Option.isNone_none, List.getD_cons_zero, List.getD_cons_succ, I.at, atL, atO, atP, evp, evs, retV, ↓reduceIte, Nat.reduceEqDiff, reduceCtorEq, AS, h.Xlen, hn]
  refine X_call0 ((culletlaw13_twin_spec w1 s l h hb).mono ?_)
  rintro s43 w2 ⟨o43, hB⟩
  have o43 := o43.mono B.size
  have h := h.up hB
  have B := B.trans (hB.mono B.size)
  clear hB
  simp (maxSteps := 1000000) (disch := omega) only [WS, List.getElem_cons_zero, List.getElem_cons_succ, Option.isNone_some, Option.isNone_none, List.getD_cons_zero, List.getD_cons_succ, I.at, atL, atO, atP, evp, evs, retV, ↓reduceIte, Nat.reduceEqDiff, reduceCtorEq, AS]
  refine X_bsl (zs := [(⟨91⟩ : El 16), ⟨92⟩, ⟨93⟩, ⟨94⟩, ⟨95⟩, ⟨96⟩, ⟨97⟩, ⟨98⟩]) (by rfl) (by rfl) fun s44 w3 o44 hB => ?_
  have h := h.up hB
  have o43 := o43.up hB
  have B := B.trans (hB.mono B.size)
  clear hB
  simp (maxSteps := 1000000) (disch := omega) only [WS, List.getElem_cons_zero, List.getElem_cons_succ, Option.isNone_some, Option.isNone_none, List.getD_cons_zero, List.getD_cons_succ, I.at, atL, atO, atP, evp, evs, retV, ↓reduceIte, Nat.reduceEqDiff, reduceCtorEq, AS]
  refine o43.Xapp2 o44.sl B.size (by simp only [List.length_cons, List.length_nil, maxBytes]; omega) (by simp only [List.length_cons, List.length_nil]; omega) fun sv w4 ov hg => ?_
  have B := hg.below B B.size fun b hb => (o43.blk b hb).1
  clear hg o43 o44
  have lV : (l ++ [(⟨91⟩ : El 16), ⟨92⟩, ⟨93⟩, ⟨94⟩, ⟨95⟩, ⟨96⟩, ⟨97⟩, ⟨98⟩]).length = n + 8 := by rw [List.length_append, hn]; rfl
  generalize l ++ [(⟨91⟩ : El 16), ⟨92⟩, ⟨93⟩, ⟨94⟩, ⟨95⟩, ⟨96⟩, ⟨97⟩, ⟨98⟩] = V at ov lV
  obtain ⟨vb, hvb, hvlt⟩ := ov.sl.blk_lt (by rintro rfl; simp at lV)
  have hnV : ∀ V : List (El 16), V.length = n + 8 → n ≤ V.length := fun V h => by omega
  have htk : ∀ V : List (El 16), V.length = n + 8 → (V.take n).length = n := fun V h => by rw [List.length_take]; omega
  have hlen : ∀ (P : Program) (d : Option Nat) (L : List D) (Q : T → World → Prop) (t : T) (w' : World), XW P (.len (.c s)) d L Q t w' = W P Q L (put t d (.int .i64 (n : Int))) w' := fun P d L Q t w' => by rw [h.Xlen, hn]
  clear h hb h3 hk6 hk8
  simp (maxSteps := 1000000) (disch := omega) only [WS, List.getElem_cons_zero, List.getElem_cons_succ, Option.isNone_some, Option.isNone_none, List.getD_cons_zero, List.getD_cons_succ, I.at, atL, atO, atP, evp, evs, retV, ↓reduceIte, Nat.reduceEqDiff, reduceCtorEq, AS, hlen, ov.sl.XslcHi (hnV V lV)]
  refine X_call0 ((culletlaw13_twin_spec w4 sv V ov.sl (by omega)).mono ?_)
  rintro s51 w5 ⟨o51, hB⟩
  have o51 := o51.sl
  have hvlt := Nat.lt_of_lt_of_le hvlt hB.size
  have ov := ov.up hB
  have B := B.trans (hB.mono B.size)
  clear hB
  simp (maxSteps := 1000000) (disch := omega) only [WS, List.getElem_cons_zero, List.getElem_cons_succ, Option.isNone_some, Option.isNone_none, List.getD_cons_zero, List.getD_cons_succ, I.at, atL, atO, atP, evp, evs, retV, ↓reduceIte, Nat.reduceEqDiff, reduceCtorEq, AS]
  generalize hS : w5.heap.size = S at hvlt
  have hSB : w.heap.size ≤ S := hS ▸ B.size
  have hSz : S ≤ w5.heap.size := Nat.le_of_eq hS.symm
  have Lo : Lst (α := El 16) S [] w5 := Lst.nil _ _
  refine X_call0 ((culletlaw13_asked_spec w5 k hk (Fw.sub sv 0 n) (V.take n) (ov.sub0 (hnV V lV)).sl (by rw [htk V lV]; exact hn3)).mono ?_)
  rintro _ w6 ⟨sa, a, ea, rfl, oa, ra, la, na, hB⟩
  have sla := oa.sl
  have Lo := Lo.push hB hSz oa
  have hSz := Nat.le_trans hSz hB.size
  clear oa
  have ov := ov.up hB
  have o51 := o51.up hB
  have B := B.trans (hB.mono B.size)
  clear hB
  simp (maxSteps := 1000000) (disch := omega) only [WS, List.getElem_cons_zero, List.getElem_cons_succ, Option.isNone_some, Option.isNone_none, List.getD_cons_zero, List.getD_cons_succ, I.at, atL, atO, atP, evp, evs, retV, ↓reduceIte, Nat.reduceEqDiff, reduceCtorEq, AS]
  refine X_call0 ((culletlaw13_twin_spec w6 sa a sla (by omega)).mono ?_)
  rintro sw w7 ⟨ow, hB⟩
  have owb : ∀ c, Fw.blk sw = some c → S ≤ c := fun c hc => Nat.le_trans hSz (ow.blk c hc).1
  have ow := ow.sl
  have Lo := Lo.up hB
  have hSz := Nat.le_trans hSz hB.size
  have ov := ov.up hB
  have o51 := o51.up hB
  have B := B.trans (hB.mono B.size)
  clear hB
  simp (maxSteps := 1000000) (disch := omega) only [WS, List.getElem_cons_zero, List.getElem_cons_succ, Option.isNone_some, Option.isNone_none, List.getD_cons_zero, List.getD_cons_succ, I.at, atL, atO, atP, evp, evs, retV, ↓reduceIte, Nat.reduceEqDiff, reduceCtorEq, AS]
  refine X_call0 ((culletlaw13_asked_spec w7 k hk (Fw.sub sv 0 n) (V.take n) (ov.sub0 (hnV V lV)).sl (by rw [htk V lV]; exact hn3)).mono ?_)
  rintro _ w8 ⟨sb, b, eb, rfl, ob, rb, lb, nb, hB⟩
  have Lo := Lo.push hB hSz ob
  have hSz := Nat.le_trans hSz hB.size
  clear ob
  have ov := ov.up hB
  have o51 := o51.up hB
  have ow := ow.up hB
  have B := B.trans (hB.mono B.size)
  clear hB
  have hba : b = a := AR.uniq (Or.inr (Or.inr trivial)) rb ra (nb.trans na.symm)
  subst hba
  simp only [List.cons_append, List.nil_append] at Lo
  simp (maxSteps := 1000000) (disch := omega) only [WS, List.getElem_cons_zero, List.getElem_cons_succ, Option.isNone_some, Option.isNone_none, List.getD_cons_zero, List.getD_cons_succ, I.at, atL, atO, atP, evp, evs, retV, ↓reduceIte, Nat.reduceEqDiff, reduceCtorEq, AS]
  refine X_call0 ((culletlaw13_same_spec w8 sa sw b b (Lo.ow 0 (sa, b) rfl).sl ow (by omega) (by omega)).mono ?_)
  rintro _ w9 ⟨rfl, hk1⟩
  have hB := hk1.1
  rw [decide_eq_true rfl]
  have Lo := Lo.up hB
  have hSz := Nat.le_trans hSz hB.size
  clear hk1
  have ov := ov.up hB
  have o51 := o51.up hB
  have ow := ow.up hB
  have B := B.trans (hB.mono B.size)
  clear hB
  simp (maxSteps := 1000000) (disch := omega) only [WS, List.getElem_cons_zero, List.getElem_cons_succ, Option.isNone_some, Option.isNone_none, List.getD_cons_zero, List.getD_cons_succ, I.at, atL, atO, atP, evp, evs, retV, ↓reduceIte, Nat.reduceEqDiff, reduceCtorEq, AS]
  refine X_call0 ((culletlaw13_same_spec w9 sb sw b b (Lo.ow 1 (sb, b) rfl).sl ow (by omega) (by omega)).mono ?_)
  rintro _ w10 ⟨rfl, hk1⟩
  have hB := hk1.1
  rw [decide_eq_true rfl]
  have Lo := Lo.up hB
  have hSz := Nat.le_trans hSz hB.size
  clear hk1
  have ov := ov.up hB
  have o51 := o51.up hB
  have ow := ow.up hB
  have B := B.trans (hB.mono B.size)
  clear hB
  simp (maxSteps := 1000000) (disch := omega) only [WS, List.getElem_cons_zero, List.getElem_cons_succ, Option.isNone_some, Option.isNone_none, List.getD_cons_zero, List.getD_cons_succ, I.at, atL, atO, atP, evp, evs, retV, ↓reduceIte, Nat.reduceEqDiff, reduceCtorEq, AS]
  refine X_call0 ((culletlaw13_same_spec w10 sv s51 V V ov.sl o51 (by omega) (by omega)).mono ?_)
  rintro _ w11 ⟨rfl, hk1⟩
  have hB := hk1.1
  rw [decide_eq_true rfl]
  have Lo := Lo.up hB
  have hSz := Nat.le_trans hSz hB.size
  clear hk1 o51
  have ov := ov.up hB
  have ow := ow.up hB
  have B := B.trans (hB.mono B.size)
  clear hB
  simp (maxSteps := 1000000) (disch := omega) only [WS, List.getElem_cons_zero, List.getElem_cons_succ, Option.isNone_some, Option.isNone_none, List.getD_cons_zero, List.getD_cons_succ, I.at, atL, atO, atP, evp, evs, retV, ↓reduceIte, Nat.reduceEqDiff, reduceCtorEq, AS]
  refine loop_of (fun t w' => t 0 = .int .i64 k ∧ t 1 = s ∧ t 5 = sv ∧ t 6 = Fw.sub sv 0 n ∧ t 8 = sa ∧ t 10 = sw ∧ t 11 = sb ∧ RowKit.Below w.heap.size w w' ∧ Lst (α := El 16) S [(sa, b), (sb, b)] w' ∧ S ≤ w'.heap.size ∧ Sl w' sw b ∧ ∃ (i : Nat) (V : List (El 16)), t 13 = .int .i64 (i : Int) ∧ i ≤ n ∧ Ow w.heap.size w' sv V ∧ V.length = n + 8)
    (fun t _ => n - (toI (t 13)).toNat) ⟨by simp only [WS, List.getElem_cons_zero, List.getElem_cons_succ, Option.isNone_some, Option.isNone_none, List.getD_cons_zero, List.getD_cons_succ, I.at, atL, atO, atP, evp, evs, retV, ↓reduceIte, Nat.reduceEqDiff, reduceCtorEq], by simp only [WS, List.getElem_cons_zero, List.getElem_cons_succ, Option.isNone_some, Option.isNone_none, List.getD_cons_zero, List.getD_cons_succ, I.at, atL, atO, atP, evp, evs, retV, ↓reduceIte, Nat.reduceEqDiff, reduceCtorEq], by simp only [WS, List.getElem_cons_zero, List.getElem_cons_succ, Option.isNone_some, Option.isNone_none, List.getD_cons_zero, List.getD_cons_succ, I.at, atL, atO, atP, evp, evs, retV, ↓reduceIte, Nat.reduceEqDiff, reduceCtorEq], by simp only [WS, List.getElem_cons_zero, List.getElem_cons_succ, Option.isNone_some, Option.isNone_none, List.getD_cons_zero, List.getD_cons_succ, I.at, atL, atO, atP, evp, evs, retV, ↓reduceIte, Nat.reduceEqDiff, reduceCtorEq], by simp only [WS, List.getElem_cons_zero, List.getElem_cons_succ, Option.isNone_some, Option.isNone_none, List.getD_cons_zero, List.getD_cons_succ, I.at, atL, atO, atP, evp, evs, retV, ↓reduceIte, Nat.reduceEqDiff, reduceCtorEq], by simp only [WS, List.getElem_cons_zero, List.getElem_cons_succ, Option.isNone_some, Option.isNone_none, List.getD_cons_zero, List.getD_cons_succ, I.at, atL, atO, atP, evp, evs, retV, ↓reduceIte, Nat.reduceEqDiff, reduceCtorEq], by simp only [WS, List.getElem_cons_zero, List.getElem_cons_succ, Option.isNone_some, Option.isNone_none, List.getD_cons_zero, List.getD_cons_succ, I.at, atL, atO, atP, evp, evs, retV, ↓reduceIte, Nat.reduceEqDiff, reduceCtorEq], B, Lo, hSz, ow, 0, V, rfl, by omega, ov, lV⟩ ?_
  clear B Lo hSz ow ov lV
  rintro t w12 ⟨t0, t1, t5, t6, t8, t10, t11, B, Lo, hSz, ow, i, V, t13, hi, ov, lV⟩
  by_cases hil : i < n
  · have iV : i < V.length := by omega
    have hsub := (ov.sub0 (hnV V lV)).sl
    have hel : elP (Fw.sub sv 0 n) i = elP sv i := by rw [elP_sub ov.sl (show 0 < n by omega) (hnV V lV), Nat.zero_add]
    have hix := hsub.Xix (k := .i64) (i := i) (by rw [htk V lV]; exact hil) Try.prog
    rw [hel] at hix
    obtain ⟨y, hy⟩ := u16_el (IntKind.u16.wrap ((V[i].v.toNat : Int) * 3) + 1)
    simp (maxSteps := 1000000) (disch := omega) only [WS, List.getElem_cons_zero, List.getElem_cons_succ, Option.isNone_some, Option.isNone_none, List.getD_cons_zero, List.getD_cons_succ, I.at, atL, atO, atP, evp, evs, retV, ↓reduceIte, Nat.reduceEqDiff, reduceCtorEq, AS, t0, t1, t5, t6, t8, t10, t11, t13, hsub.Xlen, htk V lV, hix, ov.sl.Xld iV, cell_e16, hy]
    refine ov.Xst iV y fun w13 ov2 hg => ?_
    rw [hvb] at hg
    have Lo := Lo.grown hvlt hg
    have ow := ow.grown hg (Or.inl fun e => by have := owb vb e; omega)
    have B := B.grown hg B.size fun c hc => by cases hc; exact (ov.blk vb hvb).1
    simp (maxSteps := 1000000) (disch := omega) only [WS, List.getElem_cons_zero, List.getElem_cons_succ, Option.isNone_some, Option.isNone_none, List.getD_cons_zero, List.getD_cons_succ, I.at, atL, atO, atP, evp, evs, retV, ↓reduceIte, Nat.reduceEqDiff, reduceCtorEq, AS, t0, t1, t5, t6, t8, t10, t11, t13]
    exact ⟨⟨B, Lo, Nat.le_trans hSz hg.size, ow, i + 1, _, rfl, by omega, ov2, by simpa using lV⟩, by omega⟩
  obtain rfl : i = n := by omega
  have hsub := (ov.sub0 (hnV V lV)).sl
  simp (maxSteps := 1000000) (disch := omega) only [WS, List.getElem_cons_zero, List.getElem_cons_succ, Option.isNone_some, Option.isNone_none, List.getD_cons_zero, List.getD_cons_succ, I.at, atL, atO, atP, evp, evs, retV, ↓reduceIte, Nat.reduceEqDiff, reduceCtorEq, AS, t0, t1, t5, t6, t8, t10, t11, t13, hsub.Xlen, htk V lV]
  refine X_call0 ((culletlaw13_twin_spec w12 sv V ov.sl (by omega)).mono ?_)
  rintro st w13 ⟨ot, hB⟩
  have ot := ot.sl
  have Lo := Lo.up hB
  have hSz := Nat.le_trans hSz hB.size
  have ov := ov.up hB
  have ow := ow.up hB
  have B := B.trans (hB.mono B.size)
  clear hB
  simp (maxSteps := 1000000) (disch := omega) only [WS, List.getElem_cons_zero, List.getElem_cons_succ, Option.isNone_some, Option.isNone_none, List.getD_cons_zero, List.getD_cons_succ, I.at, atL, atO, atP, evp, evs, retV, ↓reduceIte, Nat.reduceEqDiff, reduceCtorEq, AS, t0, t1, t5, t6, t8, t10, t11]
  refine X_call0 ((culletlaw13_asked_spec w13 k hk (Fw.sub sv 0 i) (V.take i) (ov.sub0 (hnV V lV)).sl (by rw [htk V lV]; exact hn3)).mono ?_)
  rintro _ w14 ⟨sc, c, ec, rfl, oc, rc, lc, nc, hB⟩
  have Lo := Lo.push hB hSz oc
  have hSz := Nat.le_trans hSz hB.size
  clear oc
  have ov := ov.up hB
  have ow := ow.up hB
  have ot := ot.up hB
  have B := B.trans (hB.mono B.size)
  clear hB
  simp (maxSteps := 1000000) (disch := omega) only [WS, List.getElem_cons_zero, List.getElem_cons_succ, Option.isNone_some, Option.isNone_none, List.getD_cons_zero, List.getD_cons_succ, I.at, atL, atO, atP, evp, evs, retV, ↓reduceIte, Nat.reduceEqDiff, reduceCtorEq, AS, t0, t1, t5, t6, t8, t10, t11]
  refine X_call0 ((culletlaw13_twin_spec w14 (Fw.sub sv 0 i) (V.take i) (ov.sub0 (hnV V lV)).sl (by rw [htk V lV]; omega)).mono ?_)
  rintro s8 w15 ⟨o8, hB⟩
  have o8 := o8.sl
  have Lo := Lo.up hB
  have hSz := Nat.le_trans hSz hB.size
  have ov := ov.up hB
  have ow := ow.up hB
  have ot := ot.up hB
  have B := B.trans (hB.mono B.size)
  clear hB
  simp (maxSteps := 1000000) (disch := omega) only [WS, List.getElem_cons_zero, List.getElem_cons_succ, Option.isNone_some, Option.isNone_none, List.getD_cons_zero, List.getD_cons_succ, I.at, atL, atO, atP, evp, evs, retV, ↓reduceIte, Nat.reduceEqDiff, reduceCtorEq, AS, t0, t1, t5, t6, t8, t10, t11]
  refine X_call0 ((culletlaw13_asked_spec w15 k hk s8 (V.take i) o8 (by rw [htk V lV]; exact hn3)).mono ?_)
  rintro _ w16 ⟨sf, f, ef, rfl, of, rf, lf, nf, hB⟩
  have Lo := Lo.push hB hSz of
  have hSz := Nat.le_trans hSz hB.size
  clear of o8
  have ov := ov.up hB
  have ow := ow.up hB
  have ot := ot.up hB
  have B := B.trans (hB.mono B.size)
  clear hB
  have hfc : f = c := AR.uniq (Or.inr (Or.inr trivial)) rf rc (nf.trans nc.symm)
  subst hfc
  simp only [List.cons_append, List.nil_append] at Lo
  simp (maxSteps := 1000000) (disch := omega) only [WS, List.getElem_cons_zero, List.getElem_cons_succ, Option.isNone_some, Option.isNone_none, List.getD_cons_zero, List.getD_cons_succ, I.at, atL, atO, atP, evp, evs, retV, ↓reduceIte, Nat.reduceEqDiff, reduceCtorEq, AS, t0, t1, t5, t6, t8, t10, t11]
  refine X_call0 ((culletlaw13_same_spec w16 sc sf f f (Lo.ow 2 (sc, f) rfl).sl (Lo.ow 3 (sf, f) rfl).sl (by omega) (by omega)).mono ?_)
  rintro _ w17 ⟨rfl, hk1⟩
  have hB := hk1.1
  rw [decide_eq_true rfl]
  have Lo := Lo.up hB
  have hSz := Nat.le_trans hSz hB.size
  clear hk1
  have ov := ov.up hB
  have ow := ow.up hB
  have ot := ot.up hB
  have B := B.trans (hB.mono B.size)
  clear hB
  simp (maxSteps := 1000000) (disch := omega) only [WS, List.getElem_cons_zero, List.getElem_cons_succ, Option.isNone_some, Option.isNone_none, List.getD_cons_zero, List.getD_cons_succ, I.at, atL, atO, atP, evp, evs, retV, ↓reduceIte, Nat.reduceEqDiff, reduceCtorEq, AS, t0, t1, t5, t6, t8, t10, t11]
  refine X_call0 ((culletlaw13_same_spec w17 sa sw b b (Lo.ow 0 (sa, b) rfl).sl ow (by omega) (by omega)).mono ?_)
  rintro _ w18 ⟨rfl, hk1⟩
  have hB := hk1.1
  rw [decide_eq_true rfl]
  have Lo := Lo.up hB
  have hSz := Nat.le_trans hSz hB.size
  clear hk1
  have ov := ov.up hB
  have ow := ow.up hB
  have ot := ot.up hB
  have B := B.trans (hB.mono B.size)
  clear hB
  simp (maxSteps := 1000000) (disch := omega) only [WS, List.getElem_cons_zero, List.getElem_cons_succ, Option.isNone_some, Option.isNone_none, List.getD_cons_zero, List.getD_cons_succ, I.at, atL, atO, atP, evp, evs, retV, ↓reduceIte, Nat.reduceEqDiff, reduceCtorEq, AS, t0, t1, t5, t6, t8, t10, t11]
  refine X_call0 ((culletlaw13_same_spec w18 sb sw b b (Lo.ow 1 (sb, b) rfl).sl ow (by omega) (by omega)).mono ?_)
  rintro _ w19 ⟨rfl, hk1⟩
  have hB := hk1.1
  rw [decide_eq_true rfl]
  have Lo := Lo.up hB
  have hSz := Nat.le_trans hSz hB.size
  clear hk1
  have ov := ov.up hB
  have ot := ot.up hB
  have B := B.trans (hB.mono B.size)
  clear hB
  simp (maxSteps := 1000000) (disch := omega) only [WS, List.getElem_cons_zero, List.getElem_cons_succ, Option.isNone_some, Option.isNone_none, List.getD_cons_zero, List.getD_cons_succ, I.at, atL, atO, atP, evp, evs, retV, ↓reduceIte, Nat.reduceEqDiff, reduceCtorEq, AS, t0, t1, t5, t6, t8, t10, t11]
  refine X_call0 ((culletlaw13_same_spec w19 sv st V V ov.sl ot (by omega) (by omega)).mono ?_)
  rintro _ w20 ⟨rfl, hk1⟩
  have hB := hk1.1
  rw [decide_eq_true rfl]
  have Lo := Lo.up hB
  have hSz := Nat.le_trans hSz hB.size
  clear hk1
  have ov := ov.up hB
  have ot := ot.up hB
  have B := B.trans (hB.mono B.size)
  clear hB
  obtain ⟨x, hx⟩ := u16_el (IntKind.u16.wrap (i : Int) * 257)
  simp (maxSteps := 1000000) (disch := omega) only [WS, List.getElem_cons_zero, List.getElem_cons_succ, Option.isNone_some, Option.isNone_none, List.getD_cons_zero, List.getD_cons_succ, I.at, atL, atO, atP, evp, evs, retV, ↓reduceIte, Nat.reduceEqDiff, reduceCtorEq, AS, t0, t1, t5, t6, t8, t10, t11, hlen, hx]
  refine X_call0 ((lch_Eval_spec w20 (Fw.sub sv 0 i) (V.take i) x (ov.sub0 (hnV V lV)).sl (by rw [htk V lV]; omega)).mono ?_)
  rintro _ w21 ⟨hB, ⟨hbad, -⟩ | ⟨-, rfl⟩⟩
  · rw [htk V lV] at hbad; omega
  have Lo := Lo.up hB
  have hSz := Nat.le_trans hSz hB.size
  have ov := ov.up hB
  have ot := ot.up hB
  have B := B.trans (hB.mono B.size)
  clear hB
  simp (maxSteps := 1000000) (disch := omega) only [WS, List.getElem_cons_zero, List.getElem_cons_succ, Option.isNone_some, Option.isNone_none, List.getD_cons_zero, List.getD_cons_succ, I.at, atL, atO, atP, evp, evs, retV, ↓reduceIte, Nat.reduceEqDiff, reduceCtorEq, AS, t0, t1, t5, t6, t8, t10, t11]
  refine X_call0 ((culletlaw13_twin_spec w21 (Fw.sub sv 0 i) (V.take i) (ov.sub0 (hnV V lV)).sl (by rw [htk V lV]; omega)).mono ?_)
  rintro s8 w22 ⟨o8, hB⟩
  have o8 := o8.sl
  have Lo := Lo.up hB
  have hSz := Nat.le_trans hSz hB.size
  have ov := ov.up hB
  have ot := ot.up hB
  have B := B.trans (hB.mono B.size)
  clear hB
  simp (maxSteps := 1000000) (disch := omega) only [WS, List.getElem_cons_zero, List.getElem_cons_succ, Option.isNone_some, Option.isNone_none, List.getD_cons_zero, List.getD_cons_succ, I.at, atL, atO, atP, evp, evs, retV, ↓reduceIte, Nat.reduceEqDiff, reduceCtorEq, AS, t0, t1, t5, t6, t8, t10, t11]
  refine X_call0 ((lch_Eval_spec w22 s8 (V.take i) x o8 (by rw [htk V lV]; omega)).mono ?_)
  rintro _ w23 ⟨hB, ⟨hbad, -⟩ | ⟨-, rfl⟩⟩
  · rw [htk V lV] at hbad; omega
  have Lo := Lo.up hB
  have hSz := Nat.le_trans hSz hB.size
  clear o8
  have ov := ov.up hB
  have ot := ot.up hB
  have B := B.trans (hB.mono B.size)
  clear hB
  have dd : ∀ e : Int, (!decide (e = e)) = false := fun e => by rw [decide_eq_true rfl]; rfl
  simp (maxSteps := 1000000) (disch := omega) only [WS, List.getElem_cons_zero, List.getElem_cons_succ, Option.isNone_some, Option.isNone_none, List.getD_cons_zero, List.getD_cons_succ, I.at, atL, atO, atP, evp, evs, retV, ↓reduceIte, Nat.reduceEqDiff, reduceCtorEq, AS, t0, t1, t5, t6, t8, t10, t11, dd]
  refine X_call0 ((culletlaw13_same_spec w23 sv st V V ov.sl ot (by omega) (by omega)).mono ?_)
  rintro _ w24 ⟨rfl, hk1⟩
  have hB := hk1.1
  rw [decide_eq_true rfl]
  have Lo := Lo.up hB
  have hSz := Nat.le_trans hSz hB.size
  clear hk1 ot
  have ov := ov.up hB
  have B := B.trans (hB.mono B.size)
  clear hB
  simp (maxSteps := 1000000) (disch := omega) only [WS, List.getElem_cons_zero, List.getElem_cons_succ, Option.isNone_some, Option.isNone_none, List.getD_cons_zero, List.getD_cons_succ, I.at, atL, atO, atP, evp, evs, retV, ↓reduceIte, Nat.reduceEqDiff, reduceCtorEq, AS, t0, t1, t5, t6, t8, t10, t11]
  refine loop_of (fun t w' => t 1 = s ∧ t 5 = sv ∧ t 6 = Fw.sub sv 0 i ∧ t 8 = sa ∧ t 11 = sb ∧ t 15 = sc ∧ t 17 = sf ∧ t 19 = .int .u16 (x.v.toNat : Int) ∧ RowKit.Below w.heap.size w w' ∧ Lst (α := El 16) S [(sa, b), (sb, b), (sc, f), (sf, f)] w' ∧ S ≤ w'.heap.size ∧ ∃ (j : Nat) (V : List (El 16)), t 24 = .int .i64 (j : Int) ∧ j ≤ i ∧ Ow w.heap.size w' sv V ∧ V.length = i + 8)
    (fun t _ => i - (toI (t 24)).toNat) ⟨by simp only [WS, List.getElem_cons_zero, List.getElem_cons_succ, Option.isNone_some, Option.isNone_none, List.getD_cons_zero, List.getD_cons_succ, I.at, atL, atO, atP, evp, evs, retV, ↓reduceIte, Nat.reduceEqDiff, reduceCtorEq]; exact t1, by simp only [WS, List.getElem_cons_zero, List.getElem_cons_succ, Option.isNone_some, Option.isNone_none, List.getD_cons_zero, List.getD_cons_succ, I.at, atL, atO, atP, evp, evs, retV, ↓reduceIte, Nat.reduceEqDiff, reduceCtorEq]; exact t5, by simp only [WS, List.getElem_cons_zero, List.getElem_cons_succ, Option.isNone_some, Option.isNone_none, List.getD_cons_zero, List.getD_cons_succ, I.at, atL, atO, atP, evp, evs, retV, ↓reduceIte, Nat.reduceEqDiff, reduceCtorEq]; exact t6, by simp only [WS, List.getElem_cons_zero, List.getElem_cons_succ, Option.isNone_some, Option.isNone_none, List.getD_cons_zero, List.getD_cons_succ, I.at, atL, atO, atP, evp, evs, retV, ↓reduceIte, Nat.reduceEqDiff, reduceCtorEq]; exact t8, by simp only [WS, List.getElem_cons_zero, List.getElem_cons_succ, Option.isNone_some, Option.isNone_none, List.getD_cons_zero, List.getD_cons_succ, I.at, atL, atO, atP, evp, evs, retV, ↓reduceIte, Nat.reduceEqDiff, reduceCtorEq]; exact t11, by simp only [WS, List.getElem_cons_zero, List.getElem_cons_succ, Option.isNone_some, Option.isNone_none, List.getD_cons_zero, List.getD_cons_succ, I.at, atL, atO, atP, evp, evs, retV, ↓reduceIte, Nat.reduceEqDiff, reduceCtorEq], by simp only [WS, List.getElem_cons_zero, List.getElem_cons_succ, Option.isNone_some, Option.isNone_none, List.getD_cons_zero, List.getD_cons_succ, I.at, atL, atO, atP, evp, evs, retV, ↓reduceIte, Nat.reduceEqDiff, reduceCtorEq], by simp only [WS, List.getElem_cons_zero, List.getElem_cons_succ, Option.isNone_some, Option.isNone_none, List.getD_cons_zero, List.getD_cons_succ, I.at, atL, atO, atP, evp, evs, retV, ↓reduceIte, Nat.reduceEqDiff, reduceCtorEq], B, Lo, hSz, 0, V, rfl, by omega, ov, lV⟩ ?_
  clear B Lo hSz ov lV t0 t1 t5 t6 t8 t10 t11 rc rf hsub
  rintro t w25 ⟨t1, t5, t6, t8, t11, t15, t17, t19, B, Lo, hSz, j, V, t24, hj, ov, lV⟩
  by_cases hji : j < i
  · have jV : j < V.length := by omega
    have hsub := (ov.sub0 (hnV V lV)).sl
    have hel : elP (Fw.sub sv 0 i) j = elP sv j := by rw [elP_sub ov.sl (show 0 < i by omega) (hnV V lV), Nat.zero_add]
    have hix := hsub.Xix (k := .i64) (i := j) (by rw [htk V lV]; exact hji) Try.prog
    rw [hel] at hix
    have hy : IntKind.u16.wrap (j : Int) = ((e16 j).v.toNat : Int) := by rw [wrap_u16 _ (by omega), e16_v _ (by omega)]
    simp (maxSteps := 1000000) (disch := omega) only [WS, List.getElem_cons_zero, List.getElem_cons_succ, Option.isNone_some, Option.isNone_none, List.getD_cons_zero, List.getD_cons_succ, I.at, atL, atO, atP, evp, evs, retV, ↓reduceIte, Nat.reduceEqDiff, reduceCtorEq, AS, t1, t5, t6, t8, t11, t15, t17, t19, t24, hsub.Xlen, htk V lV, hix, ov.sl.Xld jV, cell_e16, hy, xor16]
    refine ov.Xst jV (V[j] + e16 j) fun w13 ov2 hg => ?_
    rw [hvb] at hg
    have Lo := Lo.grown hvlt hg
    have B := B.grown hg B.size fun c hc => by cases hc; exact (ov.blk vb hvb).1
    simp (maxSteps := 1000000) (disch := omega) only [WS, List.getElem_cons_zero, List.getElem_cons_succ, Option.isNone_some, Option.isNone_none, List.getD_cons_zero, List.getD_cons_succ, I.at, atL, atO, atP, evp, evs, retV, ↓reduceIte, Nat.reduceEqDiff, reduceCtorEq, AS, t1, t5, t6, t8, t11, t15, t17, t19, t24]
    exact ⟨⟨B, Lo, Nat.le_trans hSz hg.size, j + 1, _, rfl, by omega, ov2, by simpa using lV⟩, by omega⟩
  obtain rfl : j = i := by omega
  have hsub := (ov.sub0 (hnV V lV)).sl
  simp (maxSteps := 1000000) (disch := omega) only [WS, List.getElem_cons_zero, List.getElem_cons_succ, Option.isNone_some, Option.isNone_none, List.getD_cons_zero, List.getD_cons_succ, I.at, atL, atO, atP, evp, evs, retV, ↓reduceIte, Nat.reduceEqDiff, reduceCtorEq, AS, t1, t5, t6, t8, t11, t15, t17, t19, t24, hsub.Xlen, htk V lV]
  refine X_call0 ((culletlaw13_twin_spec w25 sv V ov.sl (by omega)).mono ?_)
  rintro st w26 ⟨ot, hB⟩
  have Lo := Lo.push hB hSz ot
  have hSz := Nat.le_trans hSz hB.size
  clear ot
  have ov := ov.up hB
  have B := B.trans (hB.mono B.size)
  clear hB
  simp only [List.cons_append, List.nil_append] at Lo
  simp (maxSteps := 1000000) (disch := omega) only [WS, List.getElem_cons_zero, List.getElem_cons_succ, Option.isNone_some, Option.isNone_none, List.getD_cons_zero, List.getD_cons_succ, I.at, atL, atO, atP, evp, evs, retV, ↓reduceIte, Nat.reduceEqDiff, reduceCtorEq, AS, t1, t5, t6, t8, t11, t15, t17, t19]
  refine X_call0 ((lch_Eval_spec w26 (Fw.sub sv 0 j) (V.take j) x (ov.sub0 (hnV V lV)).sl (by rw [htk V lV]; omega)).mono ?_)
  rintro _ w27 ⟨hB, ⟨hbad, -⟩ | ⟨-, rfl⟩⟩
  · rw [htk V lV] at hbad; omega
  have Lo := Lo.up hB
  have hSz := Nat.le_trans hSz hB.size
  have ov := ov.up hB
  have B := B.trans (hB.mono B.size)
  clear hB
  simp (maxSteps := 1000000) (disch := omega) only [WS, List.getElem_cons_zero, List.getElem_cons_succ, Option.isNone_some, Option.isNone_none, List.getD_cons_zero, List.getD_cons_succ, I.at, atL, atO, atP, evp, evs, retV, ↓reduceIte, Nat.reduceEqDiff, reduceCtorEq, AS, t1, t5, t6, t8, t11, t15, t17, t19]
  refine X_call0 ((culletlaw13_twin_spec w27 (Fw.sub sv 0 j) (V.take j) (ov.sub0 (hnV V lV)).sl (by rw [htk V lV]; omega)).mono ?_)
  rintro s8 w28 ⟨o8, hB⟩
  have o8 := o8.sl
  have Lo := Lo.up hB
  have hSz := Nat.le_trans hSz hB.size
  have ov := ov.up hB
  have B := B.trans (hB.mono B.size)
  clear hB
  simp (maxSteps := 1000000) (disch := omega) only [WS, List.getElem_cons_zero, List.getElem_cons_succ, Option.isNone_some, Option.isNone_none, List.getD_cons_zero, List.getD_cons_succ, I.at, atL, atO, atP, evp, evs, retV, ↓reduceIte, Nat.reduceEqDiff, reduceCtorEq, AS, t1, t5, t6, t8, t11, t15, t17, t19]
  refine X_call0 ((lch_Eval_spec w28 s8 (V.take j) x o8 (by rw [htk V lV]; omega)).mono ?_)
  rintro _ w29 ⟨hB, ⟨hbad, -⟩ | ⟨-, rfl⟩⟩
  · rw [htk V lV] at hbad; omega
  have Lo := Lo.up hB
  have hSz := Nat.le_trans hSz hB.size
  clear o8
  have ov := ov.up hB
  have B := B.trans (hB.mono B.size)
  clear hB
  simp (maxSteps := 1000000) (disch := omega) only [WS, List.getElem_cons_zero, List.getElem_cons_succ, Option.isNone_some, Option.isNone_none, List.getD_cons_zero, List.getD_cons_succ, I.at, atL, atO, atP, evp, evs, retV, ↓reduceIte, Nat.reduceEqDiff, reduceCtorEq, AS, t1, t5, t6, t8, t11, t15, t17, t19, dd]
  refine X_call0 ((culletlaw13_same_spec w29 sv st V V ov.sl (Lo.ow 4 (st, V) rfl).sl (by omega) (by omega)).mono ?_)
  rintro _ w30 ⟨rfl, hk1⟩
  have hB := hk1.1
  rw [decide_eq_true rfl]
  have Lo := Lo.up hB
  have hSz := Nat.le_trans hSz hB.size
  clear hk1
  have ov := ov.up hB
  have B := B.trans (hB.mono B.size)
  clear hB
  have h17 : ((17 : Int) ≠ 0) = True := eq_true (by decide)
  have em : (j : Int).tmod 17 = ((j % 17 : Nat) : Int) := tmod_nat j 17
  have hm17 : j % 17 < 17 := Nat.mod_lt _ (by decide)
  generalize j % 17 = q at em hm17
  simp (maxSteps := 1000000) (disch := omega) only [WS, List.getElem_cons_zero, List.getElem_cons_succ, Option.isNone_some, Option.isNone_none, List.getD_cons_zero, List.getD_cons_succ, I.at, atL, atO, atP, evp, evs, retV, ↓reduceIte, Nat.reduceEqDiff, reduceCtorEq, AS, t1, t5, t8, t11, t15, t17, hlen, X_rem, h17, em]
  refine X_call0 ((lch_Linear_spec w30 (q : Int)).mono ?_)
  rintro _ w31 ⟨hB, ⟨-, -, sm, m, rfl, om, ml, mc⟩ | ⟨hbad, -⟩⟩
  rotate_left
  · exact absurd ⟨by omega, by omega⟩ hbad
  rw [Int.toNat_natCast] at ml mc
  have Lo := Lo.push hB hSz om
  have hSz := Nat.le_trans hSz hB.size
  clear om
  have ov := ov.up hB
  have B := B.trans (hB.mono B.size)
  clear hB
  simp (maxSteps := 1000000) (disch := omega) only [WS, List.getElem_cons_zero, List.getElem_cons_succ, Option.isNone_some, Option.isNone_none, List.getD_cons_zero, List.getD_cons_succ, I.at, atL, atO, atP, evp, evs, retV, ↓reduceIte, Nat.reduceEqDiff, reduceCtorEq, AS, t1, t5, t8, t11, t15, t17, hlen, X_rem, h17, em]
  refine X_call0 ((lch_Linear_spec w31 (q : Int)).mono ?_)
  rintro _ w32 ⟨hB, ⟨-, -, so, o, rfl, oo, ol, oc⟩ | ⟨hbad, -⟩⟩
  rotate_left
  · exact absurd ⟨by omega, by omega⟩ hbad
  rw [Int.toNat_natCast] at ol oc
  have Lo := Lo.push hB hSz oo
  have hSz := Nat.le_trans hSz hB.size
  clear oo
  have ov := ov.up hB
  have B := B.trans (hB.mono B.size)
  clear hB
  have hom : o = m := co_ext (ol.trans ml.symm) (Ps.ext fun u => by rw [oc, mc])
  subst hom
  simp only [List.cons_append, List.nil_append] at Lo
  simp (maxSteps := 1000000) (disch := omega) only [WS, List.getElem_cons_zero, List.getElem_cons_succ, Option.isNone_some, Option.isNone_none, List.getD_cons_zero, List.getD_cons_succ, I.at, atL, atO, atP, evp, evs, retV, ↓reduceIte, Nat.reduceEqDiff, reduceCtorEq, AS, t1, t5, t8, t11, t15, t17]
  refine X_call0 ((culletlaw13_same_spec w32 sm so o o (Lo.ow 5 (sm, o) rfl).sl (Lo.ow 6 (so, o) rfl).sl (by omega) (by omega)).mono ?_)
  rintro _ w33 ⟨rfl, hk1⟩
  have hB := hk1.1
  rw [decide_eq_true rfl]
  have Lo := Lo.up hB
  have hSz := Nat.le_trans hSz hB.size
  clear hk1
  have ov := ov.up hB
  have B := B.trans (hB.mono B.size)
  clear hB
  have ot := Lo.ow 4 (st, V) rfl
  rw [show ([(sa, b), (sb, b), (sc, f), (sf, f), (st, V), (sm, o), (so, o)] : List (Value × List (El 16))) = [(sa, b), (sb, b), (sc, f), (sf, f)] ++ (st, V) :: [(sm, o), (so, o)] from rfl] at Lo
  obtain ⟨Lo, hnb⟩ := Lo.skip
  simp only [List.cons_append, List.nil_append] at Lo hnb
  have v0 := (Lo.ow 0 (sa, b) rfl).sl.hd.1
  have v1 := (Lo.ow 1 (sb, b) rfl).sl.hd.1
  have v2 := (Lo.ow 2 (sc, f) rfl).sl.hd.1
  have v3 := (Lo.ow 3 (sf, f) rfl).sl.hd.1
  have v4 := (Lo.ow 4 (sm, o) rfl).sl.hd.1
  have v5 := (Lo.ow 5 (so, o) rfl).sl.hd.1
  have hf := fill6 (hd sa) (hd sb) (hd sc) (hd sf) (hd sm) (hd so)
  simp only [v0, v1, v2, v3, v4, v5] at hf
  simp (maxSteps := 1000000) (disch := omega) only [WS, List.getElem_cons_zero, List.getElem_cons_succ, Option.isNone_some, Option.isNone_none, List.getD_cons_zero, List.getD_cons_succ, I.at, atL, atO, atP, evp, evs, retV, ↓reduceIte, Nat.reduceEqDiff, reduceCtorEq, AS, t1, t5, t8, t11, t15, t17]
  refine X_bsl (zs := [hd sa, hd sb, hd sc, hd sf, hd sm, hd so]) (by simp only [evp, lZ98, List.map_cons, List.map_nil, v0, v1, v2, v3, v4, v5]; exact hf) (by rfl) fun rows w34 orr hB => ?_
  have ov2 := (ov.up hB).sl
  have ot2 := (ot.up hB).sl
  have B2 := B.trans (hB.mono B.size)
  have htb : ∀ c, Fw.blk st = some c → c < w34.heap.size := fun c hc => Nat.lt_of_lt_of_le (ot.blk c hc).2 hB.size
  have hFF : Frm (fun w' => Sl w' sv V ∧ Sl w' st V ∧ RowKit.Below w.heap.size w w' ∧ w.heap.size ≤ w'.heap.size) (fun c => c ≠ vb ∧ Fw.blk st ≠ some c ∧ w.heap.size ≤ c) :=
    ⟨fun w1 w2 c h hd hg => ⟨h.1.grown hg (Or.inl (by rw [hvb]; intro e; cases e; exact hd.1 rfl)), h.2.1.grown hg (Or.inl hd.2.1), h.2.2.1.grown hg h.2.2.2 (fun e he => by cases he; exact hd.2.2), Nat.le_trans h.2.2.2 hg.size⟩,
     fun w1 w2 h hB => ⟨h.1.up hB, h.2.1.up hB, h.2.2.1.trans (hB.mono h.2.2.2), Nat.le_trans h.2.2.2 hB.size⟩⟩
  obtain ⟨hap, hRf⟩ := Lo.rof (F := fun w' => Sl w' sv V ∧ Sl w' st V ∧ RowKit.Below w.heap.size w w' ∧ w.heap.size ≤ w'.heap.size) hSz ⟨ov2, ot2, B2, B2.size⟩ hB orr
  have hent : ∀ j (hj : j < ([(sa, b), (sb, b), (sc, f), (sf, f), (sm, o), (so, o)].map fun e => hd e.1).length), ∃ e : Value × List (El 16), [(sa, b), (sb, b), (sc, f), (sf, f), (sm, o), (so, o)][j]? = some e ∧ Cell.v ([(sa, b), (sb, b), (sc, f), (sf, f), (sm, o), (so, o)].map fun e => hd e.1)[j] = e.1 := fun j hj => by
    have hj' : j < [(sa, b), (sb, b), (sc, f), (sf, f), (sm, o), (so, o)].length := by simpa using hj
    refine ⟨_, List.getElem?_eq_getElem hj', ?_⟩
    rw [List.getElem_map]
    exact (Lo.ow j _ (List.getElem?_eq_getElem hj')).sl.hd.1
  have hvsz : vb < w34.heap.size := by have := hB.size; omega
  have hwsz : w.heap.size ≤ w34.heap.size := B2.size
  simp (maxSteps := 1000000) (disch := omega) only [WS, List.getElem_cons_zero, List.getElem_cons_succ, Option.isNone_some, Option.isNone_none, List.getD_cons_zero, List.getD_cons_succ, I.at, atL, atO, atP, evp, evs, retV, ↓reduceIte, Nat.reduceEqDiff, reduceCtorEq, AS, t1, t5, t8, t11, t15, t17]
  refine X_call0 ((culletlaw13_apart_spec w34 S _ (fun c => c ≠ vb ∧ Fw.blk st ≠ some c ∧ w.heap.size ≤ c) rows _ _ hap hFF (fun j hj c hc => ?_) (fun c hc => ⟨by omega, fun e => by have := htb c e; omega, by omega⟩) hRf (fun j hj => ?_) (by simp) (by simp)).mono ?_)
  · obtain ⟨e, he, ev⟩ := hent j hj
    rw [ev] at hc
    have h1 := ((Lo.ow j e he).blk c hc).1
    exact ⟨by omega, hnb j e c he hc, by omega⟩
  · have : ∀ e ∈ [(sa, b), (sb, b), (sc, f), (sf, f), (sm, o), (so, o)], e.2.length ≤ 1000000 := by
      simp only [List.mem_cons, List.not_mem_nil, or_false]
      rintro e (rfl | rfl | rfl | rfl | rfl | rfl) <;> dsimp only <;> omega
    have hj' : j < [(sa, b), (sb, b), (sc, f), (sf, f), (sm, o), (so, o)].length := by simpa using hj
    have h2 := this _ (List.getElem_mem hj')
    rw [List.getD_eq_getElem?_getD, List.getElem?_map, List.getElem?_eq_getElem hj']
    exact h2
  rintro _ wa ⟨rfl, ov, on, B, -⟩
  clear Lo hent hRf hap hFF
  simp (maxSteps := 1000000) (disch := omega) only [WS, List.getElem_cons_zero, List.getElem_cons_succ, Option.isNone_some, Option.isNone_none, List.getD_cons_zero, List.getD_cons_succ, I.at, atL, atO, atP, evp, evs, retV, ↓reduceIte, Nat.reduceEqDiff, reduceCtorEq, AS, t1, t5]
  refine X_call0 ((culletlaw13_same_spec wa sv st V V ov on (by omega) (by omega)).mono ?_)
  rintro _ wb ⟨rfl, hk1⟩
  have hB := hk1.1
  rw [decide_eq_true rfl]
  have B := B.trans (hB.mono B.size)
  clear hB
  simp (maxSteps := 1000000) (disch := omega) only [WS, List.getElem_cons_zero, List.getElem_cons_succ, Option.isNone_some, Option.isNone_none, List.getD_cons_zero, List.getD_cons_succ, I.at, atL, atO, atP, evp, evs, retV, ↓reduceIte, Nat.reduceEqDiff, reduceCtorEq, AS]
  exact B
end Go.Proofs.Ytcnabolainmaeaa.Fw
