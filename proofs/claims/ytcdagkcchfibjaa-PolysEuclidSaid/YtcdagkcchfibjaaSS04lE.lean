import Derived.Test.YtcdagkcchfibjaaProg
import Derived.Test.YtcdagkcchfibjaaSS04uE
import Derived.Test.YtcdagkcchfibjaaSS04qE
import Derived.Test.YtcdagkcchfibjaaSS04vE
import Derived.Test.YtcdagkcchfibjaaSS04jE
import Derived.Test.YtcdagkcchfibjaaGfRE
set_option linter.all false
set_option linter.unusedVariables false
set_option linter.unusedSimpArgs false
set_option maxRecDepth 100000
set_option maxHeartbeats 1000000
namespace Go.Proofs.Ytcdagkcchfibjaa.Fw
open Go Go.Fw Go.Proofs
def c_culletlaw04_PolysEuclid : C := .seq (.ops [⟨0, (some 1), none, .box 33 (.t 0), []⟩, ⟨1, (some 2), none, .mov (.c (.bool false)), []⟩]) (.seq (.ops [⟨0, (some 18), none, .call (.c (.func (.func 12) #[] #[])) [], []⟩, ⟨1, (some 3), none, .alloc 25 [.pointer none, .pointer none], []⟩, ⟨2, none, none, .stn 2 (.t 3) (.t 18), []⟩]) (.seq (.ops [⟨0, (some 20), none, .ldn 2 (.t 3), []⟩, ⟨1, (some 21), none, .bsl 28 3 [.int .u16 0] [(0, (1, .c (.int .u16 0))), (1, (1, .c (.int .u16 0))), (2, (1, .c (.int .u16 1)))], []⟩, ⟨2, (some 22), none, .bsl 28 2 [.int .u16 0] [(0, (1, .c (.int .u16 1))), (1, (1, .c (.int .u16 1)))], []⟩, ⟨3, (some 23), none, .call (.c (.func (.func 28) #[] #[])) [.t 20, .c (.bool false), .t 21, .t 22, .c (.int .i64 1)], []⟩, ⟨4, (some 19), none, .mov (.t 23), []⟩, ⟨5, (some 24), none, .ext (.t 19) 0, []⟩, ⟨6, (some 25), none, .ext (.t 19) 1, []⟩, ⟨7, (some 26), none, .ext (.t 19) 2, []⟩, ⟨8, (some 27), none, .ext (.t 19) 3, []⟩, ⟨9, (some 4), none, .mov (.t 24), []⟩, ⟨10, (some 5), none, .mov (.t 25), []⟩, ⟨11, (some 6), none, .mov (.t 26), []⟩, ⟨12, (some 7), none, .mov (.t 27), []⟩]) (.seq (.seq (.ops [⟨0, (some 28), none, .mov (.t 7), []⟩, ⟨1, (some 29), none, .bin .neq (.t 28) (.c (.int .i64 0)), []⟩, ⟨2, (some 30), none, .mov (.t 29), []⟩, ⟨3, (some 31), (some (30, false)), .mov (.t 4), []⟩, ⟨4, (some 32), (some (30, false)), .bsl 28 1 [.int .u16 0] [(0, (1, .c (.int .u16 1)))], []⟩, ⟨5, (some 33), (some (30, false)), .call (.c (.func (.func 15) #[] #[])) [.t 31, .t 32], []⟩, ⟨6, (some 34), (some (30, false)), .un .not (.t 33), []⟩, ⟨7, (some 35), none, .pick (.t 30) (.c (.bool true)) (.t 34), []⟩, ⟨8, (some 36), none, .mov (.t 35), []⟩, ⟨9, (some 37), (some (36, false)), .mov (.t 5), []⟩, ⟨10, (some 38), (some (36, false)), .bsl 28 1 [.int .u16 0] [(0, (1, .c (.int .u16 1)))], []⟩, ⟨11, (some 39), (some (36, false)), .call (.c (.func (.func 15) #[] #[])) [.t 37, .t 38], []⟩, ⟨12, (some 40), (some (36, false)), .un .not (.t 39), []⟩, ⟨13, (some 41), none, .pick (.t 36) (.c (.bool true)) (.t 40), []⟩, ⟨14, (some 42), none, .mov (.t 41), []⟩, ⟨15, (some 43), (some (42, false)), .mov (.t 6), []⟩, ⟨16, (some 44), (some (42, false)), .bsl 28 2 [.int .u16 0] [(0, (1, .c (.int .u16 1))), (1, (1, .c (.int .u16 1)))], []⟩, ⟨17, (some 45), (some (42, false)), .call (.c (.func (.func 15) #[] #[])) [.t 43, .t 44], []⟩, ⟨18, (some 46), (some (42, false)), .un .not (.t 45), []⟩, ⟨19, (some 47), none, .pick (.t 42) (.c (.bool true)) (.t 46), []⟩]) (.ite (.t 47) (.seq (.ops [⟨0, (some 2), none, .mov (.c (.bool false)), []⟩]) .ret) .skip)) (.seq (.ops [⟨0, (some 48), none, .fad 1 (.t 1), []⟩, ⟨1, (some 49), none, .ld (.t 48), []⟩, ⟨2, (some 50), none, .fad 2 (.t 1), []⟩, ⟨3, (some 51), none, .ld (.t 50), []⟩, ⟨4, (some 52), none, .call (.c (.func (.func 16) #[] #[])) [.t 49, .t 51], []⟩, ⟨5, (some 8), none, .mov (.t 52), []⟩]) (.seq (.ops [⟨0, (some 53), none, .fad 1 (.t 1), []⟩, ⟨1, (some 54), none, .ld (.t 53), []⟩, ⟨2, (some 55), none, .fad 3 (.t 1), []⟩, ⟨3, (some 56), none, .ld (.t 55), []⟩, ⟨4, (some 57), none, .call (.c (.func (.func 16) #[] #[])) [.t 54, .t 56], []⟩, ⟨5, (some 9), none, .mov (.t 57), []⟩]) (.seq (.seq (.ops [⟨0, (some 58), none, .mov (.t 8), []⟩, ⟨1, (some 59), none, .len (.t 58), []⟩, ⟨2, (some 60), none, .bin .gtr (.t 59) (.c (.int .i64 1024)), []⟩, ⟨3, (some 61), none, .mov (.t 60), []⟩, ⟨4, (some 62), (some (61, false)), .mov (.t 9), []⟩, ⟨5, (some 63), (some (61, false)), .len (.t 62), []⟩, ⟨6, (some 64), (some (61, false)), .bin .gtr (.t 63) (.c (.int .i64 1024)), []⟩, ⟨7, (some 65), none, .pick (.t 61) (.c (.bool true)) (.t 64), []⟩]) (.ite (.t 65) (.seq (.ops [⟨0, (some 2), none, .mov (.c (.bool true)), []⟩]) .ret) .skip)) (.seq (.ops [⟨0, (some 67), none, .ldn 2 (.t 3), []⟩, ⟨1, (some 68), none, .fad 1 (.t 1), []⟩, ⟨2, (some 69), none, .ld (.t 68), []⟩, ⟨3, (some 70), none, .mov (.t 8), []⟩, ⟨4, (some 71), none, .mov (.t 9), []⟩, ⟨5, (some 72), none, .fad 5 (.t 1), []⟩, ⟨6, (some 73), none, .ld (.t 72), []⟩, ⟨7, (some 74), none, .call (.c (.func (.func 28) #[] #[])) [.t 67, .t 69, .t 70, .t 71, .t 73], []⟩, ⟨8, (some 66), none, .mov (.t 74), []⟩, ⟨9, (some 75), none, .ext (.t 66) 0, []⟩, ⟨10, (some 76), none, .ext (.t 66) 1, []⟩, ⟨11, (some 77), none, .ext (.t 66) 2, []⟩, ⟨12, (some 78), none, .ext (.t 66) 3, []⟩, ⟨13, (some 4), none, .mov (.t 75), []⟩, ⟨14, (some 5), none, .mov (.t 76), []⟩, ⟨15, (some 6), none, .mov (.t 77), []⟩, ⟨16, (some 7), none, .mov (.t 78), []⟩]) (.seq (.seq (.ops [⟨0, (some 79), none, .fad 5 (.t 1), []⟩, ⟨1, (some 80), none, .ld (.t 79), []⟩, ⟨2, (some 81), none, .bin .lss (.t 80) (.c (.int .i64 0)), []⟩]) (.ite (.t 81) (.seq (.ops [⟨0, (some 82), none, .mov (.t 7), []⟩, ⟨1, (some 83), none, .bin .eql (.t 82) (.c (.int .i64 7)), []⟩, ⟨2, (some 84), none, .mov (.t 83), []⟩, ⟨3, (some 85), (some (84, true)), .mov (.t 4), []⟩, ⟨4, (some 86), (some (84, true)), .len (.t 85), []⟩, ⟨5, (some 87), (some (84, true)), .bin .eql (.t 86) (.c (.int .i64 0)), []⟩, ⟨6, (some 88), none, .pick (.t 84) (.t 87) (.c (.bool false)), []⟩, ⟨7, (some 89), none, .mov (.t 88), []⟩, ⟨8, (some 90), (some (89, true)), .mov (.t 5), []⟩, ⟨9, (some 91), (some (89, true)), .len (.t 90), []⟩, ⟨10, (some 92), (some (89, true)), .bin .eql (.t 91) (.c (.int .i64 0)), []⟩, ⟨11, (some 93), none, .pick (.t 89) (.t 92) (.c (.bool false)), []⟩, ⟨12, (some 94), none, .mov (.t 93), []⟩, ⟨13, (some 95), (some (94, true)), .mov (.t 6), []⟩, ⟨14, (some 96), (some (94, true)), .len (.t 95), []⟩, ⟨15, (some 97), (some (94, true)), .bin .eql (.t 96) (.c (.int .i64 0)), []⟩, ⟨16, (some 98), none, .pick (.t 94) (.t 97) (.c (.bool false)), []⟩, ⟨17, (some 2), none, .mov (.t 98), []⟩]) .ret) .skip)) (.seq (.seq (.ops [⟨0, (some 99), none, .mov (.t 7), []⟩, ⟨1, (some 100), none, .bin .neq (.t 99) (.c (.int .i64 0)), []⟩, ⟨2, (some 101), none, .mov (.t 100), []⟩, ⟨3, (some 102), (some (101, false)), .mov (.t 4), []⟩, ⟨4, (some 103), (some (101, false)), .call (.c (.func (.func 21) #[] #[])) [.t 102], []⟩, ⟨5, (some 104), (some (101, false)), .un .not (.t 103), []⟩, ⟨6, (some 105), none, .pick (.t 101) (.c (.bool true)) (.t 104), []⟩, ⟨7, (some 106), none, .mov (.t 105), []⟩, ⟨8, (some 107), (some (106, false)), .mov (.t 5), []⟩, ⟨9, (some 108), (some (106, false)), .call (.c (.func (.func 21) #[] #[])) [.t 107], []⟩, ⟨10, (some 109), (some (106, false)), .un .not (.t 108), []⟩, ⟨11, (some 110), none, .pick (.t 106) (.c (.bool true)) (.t 109), []⟩, ⟨12, (some 111), none, .mov (.t 110), []⟩, ⟨13, (some 112), (some (111, false)), .mov (.t 6), []⟩, ⟨14, (some 113), (some (111, false)), .call (.c (.func (.func 21) #[] #[])) [.t 112], []⟩, ⟨15, (some 114), (some (111, false)), .un .not (.t 113), []⟩, ⟨16, (some 115), none, .pick (.t 111) (.c (.bool true)) (.t 114), []⟩, ⟨17, (some 116), none, .mov (.t 115), []⟩, ⟨18, (some 117), (some (116, false)), .mov (.t 4), []⟩, ⟨19, (some 118), (some (116, false)), .len (.t 117), []⟩, ⟨20, (some 119), (some (116, false)), .fad 5 (.t 1), []⟩, ⟨21, (some 120), (some (116, false)), .ld (.t 119), []⟩, ⟨22, (some 121), (some (116, false)), .bin .gtr (.t 118) (.t 120), []⟩, ⟨23, (some 122), none, .pick (.t 116) (.c (.bool true)) (.t 121), []⟩, ⟨24, (some 123), none, .mov (.t 122), []⟩, ⟨25, (some 124), (some (123, false)), .mov (.t 5), []⟩, ⟨26, (some 125), (some (123, false)), .len (.t 124), []⟩, ⟨27, (some 126), (some (123, false)), .bin .gtr (.t 125) (.c (.int .i64 1024)), []⟩, ⟨28, (some 127), none, .pick (.t 123) (.c (.bool true)) (.t 126), []⟩, ⟨29, (some 128), none, .mov (.t 127), []⟩, ⟨30, (some 129), (some (128, false)), .mov (.t 6), []⟩, ⟨31, (some 130), (some (128, false)), .len (.t 129), []⟩, ⟨32, (some 131), (some (128, false)), .bin .gtr (.t 130) (.c (.int .i64 1024)), []⟩, ⟨33, (some 132), none, .pick (.t 128) (.c (.bool true)) (.t 131), []⟩]) (.ite (.t 132) (.seq (.ops [⟨0, (some 2), none, .mov (.c (.bool false)), []⟩]) .ret) .skip)) (.seq (.ops [⟨0, (some 134), none, .ldn 2 (.t 3), []⟩, ⟨1, (some 135), none, .fad 1 (.t 1), []⟩, ⟨2, (some 136), none, .ld (.t 135), []⟩, ⟨3, (some 137), none, .mov (.t 5), []⟩, ⟨4, (some 138), none, .mov (.t 8), []⟩, ⟨5, (some 139), none, .call (.c (.func (.func 13) #[] #[])) [.t 134, .t 136, .t 137, .t 138], []⟩, ⟨6, (some 133), none, .mov (.t 139), []⟩, ⟨7, (some 140), none, .ext (.t 133) 0, []⟩, ⟨8, (some 141), none, .ext (.t 133) 1, []⟩, ⟨9, (some 10), none, .mov (.t 140), []⟩, ⟨10, (some 11), none, .mov (.t 141), []⟩]) (.seq (.ops [⟨0, (some 143), none, .ldn 2 (.t 3), []⟩, ⟨1, (some 144), none, .fad 1 (.t 1), []⟩, ⟨2, (some 145), none, .ld (.t 144), []⟩, ⟨3, (some 146), none, .mov (.t 6), []⟩, ⟨4, (some 147), none, .mov (.t 9), []⟩, ⟨5, (some 148), none, .call (.c (.func (.func 13) #[] #[])) [.t 143, .t 145, .t 146, .t 147], []⟩, ⟨6, (some 142), none, .mov (.t 148), []⟩, ⟨7, (some 149), none, .ext (.t 142) 0, []⟩, ⟨8, (some 150), none, .ext (.t 142) 1, []⟩, ⟨9, (some 12), none, .mov (.t 149), []⟩, ⟨10, (some 13), none, .mov (.t 150), []⟩]) (.seq (.seq (.ops [⟨0, (some 151), none, .mov (.t 11), []⟩, ⟨1, (some 152), none, .bin .neq (.t 151) (.c (.int .i64 0)), []⟩, ⟨2, (some 153), none, .mov (.t 152), []⟩, ⟨3, (some 154), (some (153, false)), .mov (.t 13), []⟩, ⟨4, (some 155), (some (153, false)), .bin .neq (.t 154) (.c (.int .i64 0)), []⟩, ⟨5, (some 156), none, .pick (.t 153) (.c (.bool true)) (.t 155), []⟩, ⟨6, (some 157), none, .mov (.t 156), []⟩, ⟨7, (some 158), (some (157, false)), .ldn 2 (.t 3), []⟩, ⟨8, (some 159), (some (157, false)), .fad 1 (.t 1), []⟩, ⟨9, (some 160), (some (157, false)), .ld (.t 159), []⟩, ⟨10, (some 161), (some (157, false)), .mov (.t 10), []⟩, ⟨11, (some 162), (some (157, false)), .mov (.t 12), []⟩, ⟨12, (some 163), (some (157, false)), .call (.c (.func (.func 24) #[] #[])) [.t 158, .t 160, .t 161, .t 162], []⟩, ⟨13, (some 164), (some (157, false)), .mov (.t 4), []⟩, ⟨14, (some 165), (some (157, false)), .call (.c (.func (.func 15) #[] #[])) [.t 163, .t 164], []⟩, ⟨15, (some 166), (some (157, false)), .un .not (.t 165), []⟩, ⟨16, (some 167), none, .pick (.t 157) (.c (.bool true)) (.t 166), []⟩]) (.ite (.t 167) (.seq (.ops [⟨0, (some 2), none, .mov (.c (.bool false)), []⟩]) .ret) .skip)) (.seq (.ops [⟨0, (some 169), none, .ldn 2 (.t 3), []⟩, ⟨1, (some 170), none, .fad 1 (.t 1), []⟩, ⟨2, (some 171), none, .ld (.t 170), []⟩, ⟨3, (some 172), none, .mov (.t 5), []⟩, ⟨4, (some 173), none, .mov (.t 6), []⟩, ⟨5, (some 174), none, .call (.c (.func (.func 29) #[] #[])) [.t 169, .t 171, .t 172, .t 173], []⟩, ⟨6, (some 168), none, .mov (.t 174), []⟩, ⟨7, (some 175), none, .ext (.t 168) 0, []⟩, ⟨8, (some 176), none, .ext (.t 168) 1, []⟩, ⟨9, (some 14), none, .mov (.t 175), []⟩, ⟨10, (some 11), none, .mov (.t 176), []⟩]) (.seq (.seq (.ops [⟨0, (some 177), none, .mov (.t 11), []⟩, ⟨1, (some 178), none, .bin .neq (.t 177) (.c (.int .i64 0)), []⟩, ⟨2, (some 179), none, .mov (.t 178), []⟩, ⟨3, (some 180), (some (179, false)), .mov (.t 14), []⟩, ⟨4, (some 181), (some (179, false)), .bsl 28 1 [.int .u16 0] [(0, (1, .c (.int .u16 1)))], []⟩, ⟨5, (some 182), (some (179, false)), .call (.c (.func (.func 15) #[] #[])) [.t 180, .t 181], []⟩, ⟨6, (some 183), (some (179, false)), .un .not (.t 182), []⟩, ⟨7, (some 184), none, .pick (.t 179) (.c (.bool true)) (.t 183), []⟩]) (.ite (.t 184) (.seq (.ops [⟨0, (some 2), none, .mov (.c (.bool false)), []⟩]) .ret) .skip)) (.seq (.seq (.dops [⟨0, (some 185), none, .mov (.t 8), []⟩, ⟨1, (some 186), none, .call (.c (.func (.func 27) #[] #[])) [.t 185], []⟩, ⟨2, (some 187), none, .fad 5 (.t 1), []⟩, ⟨3, (some 188), none, .ld (.t 187), [1]⟩, ⟨4, (some 189), none, .bin .lss (.t 186) (.t 188), []⟩]) (.ite (.t 189) (.seq (.ops [⟨0, (some 190), none, .mov (.t 4), []⟩, ⟨1, (some 191), none, .ldn 2 (.t 3), []⟩, ⟨2, (some 192), none, .fad 1 (.t 1), []⟩, ⟨3, (some 193), none, .ld (.t 192), []⟩, ⟨4, (some 194), none, .mov (.t 8), []⟩, ⟨5, (some 195), none, .call (.c (.func (.func 22) #[] #[])) [.t 191, .t 193, .t 194], []⟩, ⟨6, (some 196), none, .call (.c (.func (.func 15) #[] #[])) [.t 190, .t 195], []⟩, ⟨7, (some 197), none, .mov (.t 196), []⟩, ⟨8, (some 198), (some (197, true)), .mov (.t 6), []⟩, ⟨9, (some 199), (some (197, true)), .len (.t 198), []⟩, ⟨10, (some 200), (some (197, true)), .bin .eql (.t 199) (.c (.int .i64 0)), []⟩, ⟨11, (some 201), none, .pick (.t 197) (.t 200) (.c (.bool false)), []⟩, ⟨12, (some 2), none, .mov (.t 201), []⟩]) .ret) .skip)) (.seq (.seq (.dops [⟨0, (some 202), none, .mov (.t 9), []⟩, ⟨1, (some 203), none, .call (.c (.func (.func 27) #[] #[])) [.t 202], []⟩, ⟨2, (some 204), none, .mov (.t 8), []⟩, ⟨3, (some 205), none, .call (.c (.func (.func 27) #[] #[])) [.t 204], []⟩, ⟨4, (some 206), none, .bin .lss (.t 203) (.t 205), []⟩, ⟨5, (some 207), none, .mov (.t 206), []⟩, ⟨6, (some 208), (some (207, true)), .mov (.t 6), []⟩, ⟨7, (some 209), (some (207, true)), .len (.t 208), []⟩, ⟨8, (some 210), (some (207, true)), .mov (.t 8), []⟩, ⟨9, (some 211), (some (207, true)), .call (.c (.func (.func 27) #[] #[])) [.t 210], []⟩, ⟨10, (some 212), (some (207, true)), .fad 5 (.t 1), []⟩, ⟨11, (some 213), (some (207, true)), .ld (.t 212), [9]⟩, ⟨12, (some 214), (some (207, true)), .bin .sub (.t 211) (.t 213), []⟩, ⟨13, (some 215), (some (207, true)), .bin .add (.t 214) (.c (.int .i64 1)), []⟩, ⟨14, (some 216), (some (207, true)), .bin .gtr (.t 209) (.t 215), []⟩, ⟨15, (some 217), none, .pick (.t 207) (.t 216) (.c (.bool false)), []⟩]) (.ite (.t 217) (.seq (.ops [⟨0, (some 2), none, .mov (.c (.bool false)), []⟩]) .ret) .skip)) (.seq (.ops [⟨0, (some 219), none, .ldn 2 (.t 3), []⟩, ⟨1, (some 220), none, .fad 1 (.t 1), []⟩, ⟨2, (some 221), none, .ld (.t 220), []⟩, ⟨3, (some 222), none, .mov (.t 8), []⟩, ⟨4, (some 223), none, .mov (.t 9), []⟩, ⟨5, (some 224), none, .call (.c (.func (.func 29) #[] #[])) [.t 219, .t 221, .t 222, .t 223], []⟩, ⟨6, (some 218), none, .mov (.t 224), []⟩, ⟨7, (some 225), none, .ext (.t 218) 0, []⟩, ⟨8, (some 226), none, .ext (.t 218) 1, []⟩, ⟨9, (some 15), none, .mov (.t 225), []⟩, ⟨10, (some 11), none, .mov (.t 226), []⟩]) (.seq (.seq (.ops [⟨0, (some 227), none, .mov (.t 11), []⟩, ⟨1, (some 228), none, .bin .neq (.t 227) (.c (.int .i64 0)), []⟩, ⟨2, (some 229), none, .mov (.t 228), []⟩, ⟨3, (some 230), (some (229, false)), .mov (.t 15), []⟩, ⟨4, (some 231), (some (229, false)), .len (.t 230), []⟩, ⟨5, (some 232), (some (229, false)), .bin .eql (.t 231) (.c (.int .i64 0)), []⟩, ⟨6, (some 233), none, .pick (.t 229) (.c (.bool true)) (.t 232), []⟩, ⟨7, (some 234), none, .mov (.t 233), []⟩, ⟨8, (some 235), (some (234, false)), .mov (.t 15), []⟩, ⟨9, (some 236), (some (234, false)), .len (.t 235), []⟩, ⟨10, (some 237), (some (234, false)), .bin .gtr (.t 236) (.c (.int .i64 1024)), []⟩, ⟨11, (some 238), none, .pick (.t 234) (.c (.bool true)) (.t 237), []⟩]) (.ite (.t 238) (.seq (.ops [⟨0, (some 2), none, .mov (.c (.bool false)), []⟩]) .ret) .skip)) (.seq (.ops [⟨0, (some 240), none, .ldn 2 (.t 3), []⟩, ⟨1, (some 241), none, .fad 1 (.t 1), []⟩, ⟨2, (some 242), none, .ld (.t 241), []⟩, ⟨3, (some 243), none, .mov (.t 4), []⟩, ⟨4, (some 244), none, .mov (.t 15), []⟩, ⟨5, (some 245), none, .call (.c (.func (.func 26) #[] #[])) [.t 240, .t 242, .t 243, .t 244], []⟩, ⟨6, (some 239), none, .mov (.t 245), []⟩, ⟨7, (some 246), none, .ext (.t 239) 0, []⟩, ⟨8, (some 247), none, .ext (.t 239) 1, []⟩, ⟨9, (some 248), none, .ext (.t 239) 2, []⟩, ⟨10, (some 16), none, .mov (.t 246), []⟩, ⟨11, (some 17), none, .mov (.t 247), []⟩, ⟨12, (some 13), none, .mov (.t 248), []⟩]) (.seq (.ops [⟨0, (some 249), none, .mov (.t 13), []⟩, ⟨1, (some 250), none, .bin .eql (.t 249) (.c (.int .i64 0)), []⟩, ⟨2, (some 251), none, .mov (.t 250), []⟩, ⟨3, (some 252), (some (251, true)), .mov (.t 17), []⟩, ⟨4, (some 253), (some (251, true)), .len (.t 252), []⟩, ⟨5, (some 254), (some (251, true)), .bin .eql (.t 253) (.c (.int .i64 0)), []⟩, ⟨6, (some 255), none, .pick (.t 251) (.t 254) (.c (.bool false)), []⟩, ⟨7, (some 2), none, .mov (.t 255), []⟩]) .ret))))))))))))))))))))
theorem run_culletlaw04_PolysEuclid {args : List Value} {w : World} {K : Value → World → Prop} (hn : args.length ≤ 256) (h : WP Try.prog c_culletlaw04_PolysEuclid (endQ [.t 2] K) (initT args) w) : CallV Try.prog 9 args w K :=
  call_of follows Try.func9 (by kernel_rfl) (by kernel_rfl) hn h
end Go.Proofs.Ytcdagkcchfibjaa.Fw
namespace Go.Proofs.Ytcdagkcchfibjaa.Fw
open Go Go.Fw
theorem eu_first : Eu 1 (tr ([⟨0⟩, ⟨0⟩, ⟨1⟩] : List (El 8))) (tr [⟨1⟩, ⟨1⟩]) [1] [] [] [1] [1] [1] [⟨1⟩, ⟨1⟩] := by
  have e0 : tr ([⟨0⟩, ⟨0⟩, ⟨1⟩] : List (El 8)) = [⟨0⟩, ⟨0⟩, ⟨1⟩] := by decide +kernel
  have e1 : tr ([⟨1⟩, ⟨1⟩] : List (El 8)) = [⟨1⟩, ⟨1⟩] := by decide +kernel
  have g : ∀ l m : List (El 8), Dg (co l * co m) (l.length + m.length) := fun l m => ((co_dg l).mul (co_dg m)).mono (by omega)
  rw [e0, e1]
  refine Eu.step (q := [⟨1⟩, ⟨1⟩]) (m := [1]) (s' := [1]) (t' := [⟨1⟩, ⟨1⟩]) (by decide) (by decide) e1 tr_one ?_ (by decide) tr_one ?_ e1 ?_ ?_
  · exact ps_eq 4 ((co_dg _).mono (by decide)) (((g _ _).mono (by decide)).add ((co_dg _).mono (by decide))) (by decide +kernel)
  · rw [co_nil, Ps.mul_zero, Ps.add_zero]
  · rw [co_one, Ps.mul_one, co_nil, Ps.zero_add]
  · refine Eu.step (q := [⟨1⟩, ⟨1⟩]) (m := []) (s' := [⟨1⟩, ⟨1⟩]) (t' := [⟨0⟩, ⟨0⟩, ⟨1⟩]) (by decide) (by decide) e1 tr_nil ?_ (by decide) e1 ?_ e0 ?_ (Eu.stop (by decide))
    · rw [co_one, Ps.mul_one, co_nil, Ps.add_zero]
    · rw [co_one, Ps.mul_one, co_nil, Ps.zero_add]
    · exact ps_eq 4 ((co_dg _).mono (by decide)) (((co_dg _).mono (by decide)).add ((g _ _).mono (by decide))) (by decide +kernel)
end Go.Proofs.Ytcdagkcchfibjaa.Fw

namespace Go.Proofs.Ytcdagkcchfibjaa.Fw
open Go Go.Fw
theorem culletlaw04_PolysEuclid_w_spec (w : World) (k n : Int) (F G : Value) (LF LG : List (El 16)) (X : El 16) (hF : Sl w F LF) (hG : Sl w G LG) (hlF : LF.length ≤ 70368744175616) (hlG : LG.length ≤ 70368744175616) :
    CallV Try.prog 9 [.agg #[.int .i64 k, .bool true, F, G, .int .u16 (X.v.toNat : Int), .int .i64 n]] w fun v w' => v = .bool true ∧ RowKit.Below w.heap.size w w' := by
  refine run_culletlaw04_PolysEuclid (by simp) ?_
  simp only [c_culletlaw04_PolysEuclid, List.getElem_cons_zero, List.getElem_cons_succ, and_true, true_and, decide_true, decide_false, Bool.not_true, Bool.not_false, lZ40, lZ37, lZ32, lZ12, lZ26, lZ39, lZ22, lZ1, lZ4, lZ6, lZ0, lZ2, lZ5, lZ83, lZ34, lZ27, I.at, atL, atO, atP, lZ20, lZ18, lZ97, lZ98, evp, evs, lZ10, ↓reduceIte, Nat.reduceEqDiff, reduceCtorEq, Value.bool.injEq, Bool.false_eq_true, Bool.true_eq_false, lZ8, lZ7, lZ68, lZ43, lZ91, lZ81, lZ93, lZ82, lZ96, lZ46, lZ21, lZ67, lZ64, lZ49, lZ52, lZ59, lZ66, lZ95, lZ56, lZ76, lZ57, lZ61, lZ79, lZ50, lZ42, lZ84, lZ55, lZ33, lZ75, lZ77, lZ73, lZ36, bff, btf, Option.isNone_some, Option.isNone_none, lZ9, lZ16, lZ3, retV, lZ44, lZ30, lZ25, lZ23, lZ14, List.getD_cons_zero, List.getD_cons_succ]
  refine X_box fun bo w1 hro hbo hB => ?_
  have hro : Row w1 bo [.int .i64 k, .bool true, F, G, .int .u16 (X.v.toNat : Int), .int .i64 n] := hro
  have B := hB
  have hF := hF.up hB
  have hG := hG.up hB
  simp (maxSteps := 1000000) (disch := omega) only [List.getElem_cons_zero, List.getElem_cons_succ, and_true, true_and, decide_true, decide_false, Bool.not_true, Bool.not_false, lZ40, lZ37, lZ32, lZ12, lZ26, lZ39, lZ22, lZ1, lZ4, lZ6, lZ0, lZ2, lZ5, lZ83, lZ34, lZ27, I.at, atL, atO, atP, lZ20, lZ18, lZ97, lZ98, evp, evs, lZ10, ↓reduceIte, Nat.reduceEqDiff, reduceCtorEq, Value.bool.injEq, Bool.false_eq_true, Bool.true_eq_false, lZ8, lZ7, lZ68, lZ43, lZ91, lZ81, lZ93, lZ82, lZ96, lZ46, lZ21, lZ67, lZ64, lZ49, lZ52, lZ59, lZ66, lZ95, lZ56, lZ76, lZ57, lZ61, lZ79, lZ50, lZ42, lZ84, lZ55, lZ33, lZ75, lZ77, lZ73, lZ36, bff, btf, Option.isNone_some, Option.isNone_none, lZ9, lZ16, lZ3, retV, lZ44, lZ30, lZ25, lZ23, lZ14, List.getD_cons_zero, List.getD_cons_succ, w_add, w_addl, w_sub, w_subl, w_mull, w_mulr, decide_eq_true, decide_eq_false, addr_add0, Nat.add_zero, Nat.zero_add, toI_int]
  refine X_call0 ((culletlaw04_both_spec w1).mono ?_)
  rintro _ w2 ⟨rb, rw, rfl, hb, hw, hB⟩
  have hF := hF.up hB
  have hG := hG.up hB
  have hro := hro.up hB
  have B := B.trans (hB.mono B.size)
  clear hB
  simp (maxSteps := 1000000) (disch := omega) only [List.getElem_cons_zero, List.getElem_cons_succ, and_true, true_and, decide_true, decide_false, Bool.not_true, Bool.not_false, lZ40, lZ37, lZ32, lZ12, lZ26, lZ39, lZ22, lZ1, lZ4, lZ6, lZ0, lZ2, lZ5, lZ83, lZ34, lZ27, I.at, atL, atO, atP, lZ20, lZ18, lZ97, lZ98, evp, evs, lZ10, ↓reduceIte, Nat.reduceEqDiff, reduceCtorEq, Value.bool.injEq, Bool.false_eq_true, Bool.true_eq_false, lZ8, lZ7, lZ68, lZ43, lZ91, lZ81, lZ93, lZ82, lZ96, lZ46, lZ21, lZ67, lZ64, lZ49, lZ52, lZ59, lZ66, lZ95, lZ56, lZ76, lZ57, lZ61, lZ79, lZ50, lZ42, lZ84, lZ55, lZ33, lZ75, lZ77, lZ73, lZ36, bff, btf, Option.isNone_some, Option.isNone_none, lZ9, lZ16, lZ3, retV, lZ44, lZ30, lZ25, lZ23, lZ14, List.getD_cons_zero, List.getD_cons_succ, w_add, w_addl, w_sub, w_subl, w_mull, w_mulr, decide_eq_true, decide_eq_false, addr_add0, Nat.add_zero, Nat.zero_add, toI_int]
  refine X_alloc fun b3 w0 hr3 hb3 hB => ?_
  have s8 : scal rb = true := by obtain ⟨_, _, _, rfl, _⟩ := hb; rfl
  have s16 : scal rw = true := by obtain ⟨_, _, _, rfl, _⟩ := hw; rfl
  simp (maxSteps := 1000000) (disch := omega) only [List.getElem_cons_zero, List.getElem_cons_succ, and_true, true_and, decide_true, decide_false, Bool.not_true, Bool.not_false, lZ40, lZ37, lZ32, lZ12, lZ26, lZ39, lZ22, lZ1, lZ4, lZ6, lZ0, lZ2, lZ5, lZ83, lZ34, lZ27, I.at, atL, atO, atP, lZ20, lZ18, lZ97, lZ98, evp, evs, lZ10, ↓reduceIte, Nat.reduceEqDiff, reduceCtorEq, Value.bool.injEq, Bool.false_eq_true, Bool.true_eq_false, lZ8, lZ7, lZ68, lZ43, lZ91, lZ81, lZ93, lZ82, lZ96, lZ46, lZ21, lZ67, lZ64, lZ49, lZ52, lZ59, lZ66, lZ95, lZ56, lZ76, lZ57, lZ61, lZ79, lZ50, lZ42, lZ84, lZ55, lZ33, lZ75, lZ77, lZ73, lZ36, bff, btf, Option.isNone_some, Option.isNone_none, lZ9, lZ16, lZ3, retV, lZ44, lZ30, lZ25, lZ23, lZ14, List.getD_cons_zero, List.getD_cons_succ, w_add, w_addl, w_sub, w_subl, w_mull, w_mulr, decide_eq_true, decide_eq_false, addr_add0, Nat.add_zero, Nat.zero_add, toI_int]
  refine Row.Xstn (vs := [rb, rw]) hr3 rfl (by simp [s8, s16]) (by simp) fun w3 hr hg => ?_
  have hB := Below.row hB hb3 hg
  clear hg hr3 hb3
  have hF := hF.up hB
  have hG := hG.up hB
  have hro := hro.up hB
  have hb := hb.up hB
  have hw := hw.up hB
  have B := B.trans (hB.mono B.size)
  clear hB
  simp (maxSteps := 1000000) (disch := omega) only [List.getElem_cons_zero, List.getElem_cons_succ, and_true, true_and, decide_true, decide_false, Bool.not_true, Bool.not_false, lZ40, lZ37, lZ32, lZ12, lZ26, lZ39, lZ22, lZ1, lZ4, lZ6, lZ0, lZ2, lZ5, lZ83, lZ34, lZ27, I.at, atL, atO, atP, lZ20, lZ18, lZ97, lZ98, evp, evs, lZ10, ↓reduceIte, Nat.reduceEqDiff, reduceCtorEq, Value.bool.injEq, Bool.false_eq_true, Bool.true_eq_false, lZ8, lZ7, lZ68, lZ43, lZ91, lZ81, lZ93, lZ82, lZ96, lZ46, lZ21, lZ67, lZ64, lZ49, lZ52, lZ59, lZ66, lZ95, lZ56, lZ76, lZ57, lZ61, lZ79, lZ50, lZ42, lZ84, lZ55, lZ33, lZ75, lZ77, lZ73, lZ36, bff, btf, Option.isNone_some, Option.isNone_none, lZ9, lZ16, lZ3, retV, lZ44, lZ30, lZ25, lZ23, lZ14, List.getD_cons_zero, List.getD_cons_succ, w_add, w_addl, w_sub, w_subl, w_mull, w_mulr, decide_eq_true, decide_eq_false, addr_add0, Nat.add_zero, Nat.zero_add, toI_int, hr.Xldn (n := 2) rfl]
  refine X_bsl (zs := [(⟨0⟩ : El 16), ⟨0⟩, ⟨1⟩]) (by rfl) (by rfl) fun c1 w4 hc1 hB => ?_
  have hF := hF.up hB
  have hG := hG.up hB
  have hro := hro.up hB
  have hb := hb.up hB
  have hw := hw.up hB
  have hr := hr.up hB
  have B := B.trans (hB.mono B.size)
  clear hB
  simp (maxSteps := 1000000) (disch := omega) only [List.getElem_cons_zero, List.getElem_cons_succ, and_true, true_and, decide_true, decide_false, Bool.not_true, Bool.not_false, lZ40, lZ37, lZ32, lZ12, lZ26, lZ39, lZ22, lZ1, lZ4, lZ6, lZ0, lZ2, lZ5, lZ83, lZ34, lZ27, I.at, atL, atO, atP, lZ20, lZ18, lZ97, lZ98, evp, evs, lZ10, ↓reduceIte, Nat.reduceEqDiff, reduceCtorEq, Value.bool.injEq, Bool.false_eq_true, Bool.true_eq_false, lZ8, lZ7, lZ68, lZ43, lZ91, lZ81, lZ93, lZ82, lZ96, lZ46, lZ21, lZ67, lZ64, lZ49, lZ52, lZ59, lZ66, lZ95, lZ56, lZ76, lZ57, lZ61, lZ79, lZ50, lZ42, lZ84, lZ55, lZ33, lZ75, lZ77, lZ73, lZ36, bff, btf, Option.isNone_some, Option.isNone_none, lZ9, lZ16, lZ3, retV, lZ44, lZ30, lZ25, lZ23, lZ14, List.getD_cons_zero, List.getD_cons_succ, w_add, w_addl, w_sub, w_subl, w_mull, w_mulr, decide_eq_true, decide_eq_false, addr_add0, Nat.add_zero, Nat.zero_add, toI_int]
  refine X_bsl (zs := [(⟨1⟩ : El 16), ⟨1⟩]) (by rfl) (by rfl) fun c2 w5 hc2 hB => ?_
  have hF := hF.up hB
  have hG := hG.up hB
  have hro := hro.up hB
  have hb := hb.up hB
  have hw := hw.up hB
  have hr := hr.up hB
  have hc1 := hc1.up hB
  have B := B.trans (hB.mono B.size)
  clear hB
  simp (maxSteps := 1000000) (disch := omega) only [List.getElem_cons_zero, List.getElem_cons_succ, and_true, true_and, decide_true, decide_false, Bool.not_true, Bool.not_false, lZ40, lZ37, lZ32, lZ12, lZ26, lZ39, lZ22, lZ1, lZ4, lZ6, lZ0, lZ2, lZ5, lZ83, lZ34, lZ27, I.at, atL, atO, atP, lZ20, lZ18, lZ97, lZ98, evp, evs, lZ10, ↓reduceIte, Nat.reduceEqDiff, reduceCtorEq, Value.bool.injEq, Bool.false_eq_true, Bool.true_eq_false, lZ8, lZ7, lZ68, lZ43, lZ91, lZ81, lZ93, lZ82, lZ96, lZ46, lZ21, lZ67, lZ64, lZ49, lZ52, lZ59, lZ66, lZ95, lZ56, lZ76, lZ57, lZ61, lZ79, lZ50, lZ42, lZ84, lZ55, lZ33, lZ75, lZ77, lZ73, lZ36, bff, btf, Option.isNone_some, Option.isNone_none, lZ9, lZ16, lZ3, retV, lZ44, lZ30, lZ25, lZ23, lZ14, List.getD_cons_zero, List.getD_cons_succ, w_add, w_addl, w_sub, w_subl, w_mull, w_mulr, decide_eq_true, decide_eq_false, addr_add0, Nat.add_zero, Nat.zero_add, toI_int, hr.Xldn (n := 2) rfl]
  refine X_call0 ((culletlaw04_Rings_partial_b_spec w5 rb rw c1 c2 _ _ 1 hb hw hc1.sl hc2.sl (by simp) (by simp)).mono ?_)
  rintro _ w6 ⟨hB, ⟨-, -, -, sm, su, sv, m, u, v', rfl, om, ou, ov, hE⟩ | ⟨-, -, h0, -⟩ | ⟨hn, -⟩⟩
  rotate_left
  · exact absurd h0 (by omega)
  · exact absurd ⟨by simp, by simp⟩ hn
  obtain ⟨rfl, rfl, rfl⟩ := hE.det (tr_tr _) eu_first
  have om := om.sl
  have ou := ou.sl
  have ov := ov.sl
  have hF := hF.up hB
  have hG := hG.up hB
  have hro := hro.up hB
  have hb := hb.up hB
  have hw := hw.up hB
  have hr := hr.up hB
  have B := B.trans (hB.mono B.size)
  clear hB
  clear hc1 hc2 hE
  simp (maxSteps := 1000000) (disch := omega) only [List.getElem_cons_zero, List.getElem_cons_succ, and_true, true_and, decide_true, decide_false, Bool.not_true, Bool.not_false, lZ40, lZ37, lZ32, lZ12, lZ26, lZ39, lZ22, lZ1, lZ4, lZ6, lZ0, lZ2, lZ5, lZ83, lZ34, lZ27, I.at, atL, atO, atP, lZ20, lZ18, lZ97, lZ98, evp, evs, lZ10, ↓reduceIte, Nat.reduceEqDiff, reduceCtorEq, Value.bool.injEq, Bool.false_eq_true, Bool.true_eq_false, lZ8, lZ7, lZ68, lZ43, lZ91, lZ81, lZ93, lZ82, lZ96, lZ46, lZ21, lZ67, lZ64, lZ49, lZ52, lZ59, lZ66, lZ95, lZ56, lZ76, lZ57, lZ61, lZ79, lZ50, lZ42, lZ84, lZ55, lZ33, lZ75, lZ77, lZ73, lZ36, bff, btf, Option.isNone_some, Option.isNone_none, lZ9, lZ16, lZ3, retV, lZ44, lZ30, lZ25, lZ23, lZ14, List.getD_cons_zero, List.getD_cons_succ, w_add, w_addl, w_sub, w_subl, w_mull, w_mulr, decide_eq_true, decide_eq_false, addr_add0, Nat.add_zero, Nat.zero_add, toI_int]
  refine X_bsl (zs := [(⟨1⟩ : El 16)]) (by rfl) (by rfl) fun c1 w7 hc1 hB => ?_
  have hF := hF.up hB
  have hG := hG.up hB
  have hro := hro.up hB
  have hb := hb.up hB
  have hw := hw.up hB
  have hr := hr.up hB
  have om := om.up hB
  have ou := ou.up hB
  have ov := ov.up hB
  have B := B.trans (hB.mono B.size)
  clear hB
  simp (maxSteps := 1000000) (disch := omega) only [List.getElem_cons_zero, List.getElem_cons_succ, and_true, true_and, decide_true, decide_false, Bool.not_true, Bool.not_false, lZ40, lZ37, lZ32, lZ12, lZ26, lZ39, lZ22, lZ1, lZ4, lZ6, lZ0, lZ2, lZ5, lZ83, lZ34, lZ27, I.at, atL, atO, atP, lZ20, lZ18, lZ97, lZ98, evp, evs, lZ10, ↓reduceIte, Nat.reduceEqDiff, reduceCtorEq, Value.bool.injEq, Bool.false_eq_true, Bool.true_eq_false, lZ8, lZ7, lZ68, lZ43, lZ91, lZ81, lZ93, lZ82, lZ96, lZ46, lZ21, lZ67, lZ64, lZ49, lZ52, lZ59, lZ66, lZ95, lZ56, lZ76, lZ57, lZ61, lZ79, lZ50, lZ42, lZ84, lZ55, lZ33, lZ75, lZ77, lZ73, lZ36, bff, btf, Option.isNone_some, Option.isNone_none, lZ9, lZ16, lZ3, retV, lZ44, lZ30, lZ25, lZ23, lZ14, List.getD_cons_zero, List.getD_cons_succ, w_add, w_addl, w_sub, w_subl, w_mull, w_mulr, decide_eq_true, decide_eq_false, addr_add0, Nat.add_zero, Nat.zero_add, toI_int]
  refine X_call0 ((culletlaw04_same_spec w7 sm c1 _ _ om hc1.sl (by simp) (by simp)).mono ?_)
  rintro _ w8 ⟨rfl, hk⟩
  have hB := hk.1
  have hF := hF.up hB
  have hG := hG.up hB
  have hro := hro.up hB
  have hb := hb.up hB
  have hw := hw.up hB
  have hr := hr.up hB
  have ou := ou.up hB
  have ov := ov.up hB
  have B := B.trans (hB.mono B.size)
  clear hB
  clear hk hc1 om
  simp (maxSteps := 1000000) (disch := omega) only [List.getElem_cons_zero, List.getElem_cons_succ, and_true, true_and, decide_true, decide_false, Bool.not_true, Bool.not_false, lZ40, lZ37, lZ32, lZ12, lZ26, lZ39, lZ22, lZ1, lZ4, lZ6, lZ0, lZ2, lZ5, lZ83, lZ34, lZ27, I.at, atL, atO, atP, lZ20, lZ18, lZ97, lZ98, evp, evs, lZ10, ↓reduceIte, Nat.reduceEqDiff, reduceCtorEq, Value.bool.injEq, Bool.false_eq_true, Bool.true_eq_false, lZ8, lZ7, lZ68, lZ43, lZ91, lZ81, lZ93, lZ82, lZ96, lZ46, lZ21, lZ67, lZ64, lZ49, lZ52, lZ59, lZ66, lZ95, lZ56, lZ76, lZ57, lZ61, lZ79, lZ50, lZ42, lZ84, lZ55, lZ33, lZ75, lZ77, lZ73, lZ36, bff, btf, Option.isNone_some, Option.isNone_none, lZ9, lZ16, lZ3, retV, lZ44, lZ30, lZ25, lZ23, lZ14, List.getD_cons_zero, List.getD_cons_succ, w_add, w_addl, w_sub, w_subl, w_mull, w_mulr, decide_eq_true, decide_eq_false, addr_add0, Nat.add_zero, Nat.zero_add, toI_int, show decide (List.map em8 [(1 : El 8)] = [(⟨1⟩ : El 16)]) = true from rfl]
  refine X_bsl (zs := [(⟨1⟩ : El 16)]) (by rfl) (by rfl) fun c1 w7 hc1 hB => ?_
  have hF := hF.up hB
  have hG := hG.up hB
  have hro := hro.up hB
  have hb := hb.up hB
  have hw := hw.up hB
  have hr := hr.up hB
  have ou := ou.up hB
  have ov := ov.up hB
  have B := B.trans (hB.mono B.size)
  clear hB
  simp (maxSteps := 1000000) (disch := omega) only [List.getElem_cons_zero, List.getElem_cons_succ, and_true, true_and, decide_true, decide_false, Bool.not_true, Bool.not_false, lZ40, lZ37, lZ32, lZ12, lZ26, lZ39, lZ22, lZ1, lZ4, lZ6, lZ0, lZ2, lZ5, lZ83, lZ34, lZ27, I.at, atL, atO, atP, lZ20, lZ18, lZ97, lZ98, evp, evs, lZ10, ↓reduceIte, Nat.reduceEqDiff, reduceCtorEq, Value.bool.injEq, Bool.false_eq_true, Bool.true_eq_false, lZ8, lZ7, lZ68, lZ43, lZ91, lZ81, lZ93, lZ82, lZ96, lZ46, lZ21, lZ67, lZ64, lZ49, lZ52, lZ59, lZ66, lZ95, lZ56, lZ76, lZ57, lZ61, lZ79, lZ50, lZ42, lZ84, lZ55, lZ33, lZ75, lZ77, lZ73, lZ36, bff, btf, Option.isNone_some, Option.isNone_none, lZ9, lZ16, lZ3, retV, lZ44, lZ30, lZ25, lZ23, lZ14, List.getD_cons_zero, List.getD_cons_succ, w_add, w_addl, w_sub, w_subl, w_mull, w_mulr, decide_eq_true, decide_eq_false, addr_add0, Nat.add_zero, Nat.zero_add, toI_int]
  refine X_call0 ((culletlaw04_same_spec w7 su c1 _ _ ou hc1.sl (by simp) (by simp)).mono ?_)
  rintro _ w8 ⟨rfl, hk⟩
  have hB := hk.1
  have hF := hF.up hB
  have hG := hG.up hB
  have hro := hro.up hB
  have hb := hb.up hB
  have hw := hw.up hB
  have hr := hr.up hB
  have ov := ov.up hB
  have B := B.trans (hB.mono B.size)
  clear hB
  clear hk hc1 ou
  simp (maxSteps := 1000000) (disch := omega) only [List.getElem_cons_zero, List.getElem_cons_succ, and_true, true_and, decide_true, decide_false, Bool.not_true, Bool.not_false, lZ40, lZ37, lZ32, lZ12, lZ26, lZ39, lZ22, lZ1, lZ4, lZ6, lZ0, lZ2, lZ5, lZ83, lZ34, lZ27, I.at, atL, atO, atP, lZ20, lZ18, lZ97, lZ98, evp, evs, lZ10, ↓reduceIte, Nat.reduceEqDiff, reduceCtorEq, Value.bool.injEq, Bool.false_eq_true, Bool.true_eq_false, lZ8, lZ7, lZ68, lZ43, lZ91, lZ81, lZ93, lZ82, lZ96, lZ46, lZ21, lZ67, lZ64, lZ49, lZ52, lZ59, lZ66, lZ95, lZ56, lZ76, lZ57, lZ61, lZ79, lZ50, lZ42, lZ84, lZ55, lZ33, lZ75, lZ77, lZ73, lZ36, bff, btf, Option.isNone_some, Option.isNone_none, lZ9, lZ16, lZ3, retV, lZ44, lZ30, lZ25, lZ23, lZ14, List.getD_cons_zero, List.getD_cons_succ, w_add, w_addl, w_sub, w_subl, w_mull, w_mulr, decide_eq_true, decide_eq_false, addr_add0, Nat.add_zero, Nat.zero_add, toI_int, show decide (List.map em8 [(1 : El 8)] = [(⟨1⟩ : El 16)]) = true from rfl]
  refine X_bsl (zs := [(⟨1⟩ : El 16), ⟨1⟩]) (by rfl) (by rfl) fun c1 w7 hc1 hB => ?_
  have hF := hF.up hB
  have hG := hG.up hB
  have hro := hro.up hB
  have hb := hb.up hB
  have hw := hw.up hB
  have hr := hr.up hB
  have ov := ov.up hB
  have B := B.trans (hB.mono B.size)
  clear hB
  simp (maxSteps := 1000000) (disch := omega) only [List.getElem_cons_zero, List.getElem_cons_succ, and_true, true_and, decide_true, decide_false, Bool.not_true, Bool.not_false, lZ40, lZ37, lZ32, lZ12, lZ26, lZ39, lZ22, lZ1, lZ4, lZ6, lZ0, lZ2, lZ5, lZ83, lZ34, lZ27, I.at, atL, atO, atP, lZ20, lZ18, lZ97, lZ98, evp, evs, lZ10, ↓reduceIte, Nat.reduceEqDiff, reduceCtorEq, Value.bool.injEq, Bool.false_eq_true, Bool.true_eq_false, lZ8, lZ7, lZ68, lZ43, lZ91, lZ81, lZ93, lZ82, lZ96, lZ46, lZ21, lZ67, lZ64, lZ49, lZ52, lZ59, lZ66, lZ95, lZ56, lZ76, lZ57, lZ61, lZ79, lZ50, lZ42, lZ84, lZ55, lZ33, lZ75, lZ77, lZ73, lZ36, bff, btf, Option.isNone_some, Option.isNone_none, lZ9, lZ16, lZ3, retV, lZ44, lZ30, lZ25, lZ23, lZ14, List.getD_cons_zero, List.getD_cons_succ, w_add, w_addl, w_sub, w_subl, w_mull, w_mulr, decide_eq_true, decide_eq_false, addr_add0, Nat.add_zero, Nat.zero_add, toI_int]
  refine X_call0 ((culletlaw04_same_spec w7 sv c1 _ _ ov hc1.sl (by simp) (by simp)).mono ?_)
  rintro _ w8 ⟨rfl, hk⟩
  have hB := hk.1
  have hF := hF.up hB
  have hG := hG.up hB
  have hro := hro.up hB
  have hb := hb.up hB
  have hw := hw.up hB
  have hr := hr.up hB
  have B := B.trans (hB.mono B.size)
  clear hB
  clear hk hc1 ov
  simp (maxSteps := 1000000) (disch := omega) only [List.getElem_cons_zero, List.getElem_cons_succ, and_true, true_and, decide_true, decide_false, Bool.not_true, Bool.not_false, lZ40, lZ37, lZ32, lZ12, lZ26, lZ39, lZ22, lZ1, lZ4, lZ6, lZ0, lZ2, lZ5, lZ83, lZ34, lZ27, I.at, atL, atO, atP, lZ20, lZ18, lZ97, lZ98, evp, evs, lZ10, ↓reduceIte, Nat.reduceEqDiff, reduceCtorEq, Value.bool.injEq, Bool.false_eq_true, Bool.true_eq_false, lZ8, lZ7, lZ68, lZ43, lZ91, lZ81, lZ93, lZ82, lZ96, lZ46, lZ21, lZ67, lZ64, lZ49, lZ52, lZ59, lZ66, lZ95, lZ56, lZ76, lZ57, lZ61, lZ79, lZ50, lZ42, lZ84, lZ55, lZ33, lZ75, lZ77, lZ73, lZ36, bff, btf, Option.isNone_some, Option.isNone_none, lZ9, lZ16, lZ3, retV, lZ44, lZ30, lZ25, lZ23, lZ14, List.getD_cons_zero, List.getD_cons_succ, w_add, w_addl, w_sub, w_subl, w_mull, w_mulr, decide_eq_true, decide_eq_false, addr_add0, Nat.add_zero, Nat.zero_add, toI_int, show decide (List.map em8 [(⟨1⟩ : El 8), ⟨1⟩] = [(⟨1⟩ : El 16), ⟨1⟩]) = true from rfl, hro.Xld (show 1 < _ by simp), hro.Xld (show 2 < _ by simp)]
  refine X_call0 ((culletlaw04_cut_w_spec w8 F LF hF hlF).mono ?_)
  rintro P w9 ⟨hP, hB⟩
  have hP := hP.sl
  have hG := hG.up hB
  have hro := hro.up hB
  have hb := hb.up hB
  have hw := hw.up hB
  have hr := hr.up hB
  have B := B.trans (hB.mono B.size)
  clear hB
  clear hF
  generalize hqQ : LF.map lo16 = Q at hP
  have lP : (Q.map em16).length = Q.length := List.length_map _
  have bQ : Q.length ≤ 70368744175616 := by rw [← hqQ, List.length_map]; exact hlF
  clear hqQ
  simp (maxSteps := 1000000) (disch := omega) only [List.getElem_cons_zero, List.getElem_cons_succ, and_true, true_and, decide_true, decide_false, Bool.not_true, Bool.not_false, lZ40, lZ37, lZ32, lZ12, lZ26, lZ39, lZ22, lZ1, lZ4, lZ6, lZ0, lZ2, lZ5, lZ83, lZ34, lZ27, I.at, atL, atO, atP, lZ20, lZ18, lZ97, lZ98, evp, evs, lZ10, ↓reduceIte, Nat.reduceEqDiff, reduceCtorEq, Value.bool.injEq, Bool.false_eq_true, Bool.true_eq_false, lZ8, lZ7, lZ68, lZ43, lZ91, lZ81, lZ93, lZ82, lZ96, lZ46, lZ21, lZ67, lZ64, lZ49, lZ52, lZ59, lZ66, lZ95, lZ56, lZ76, lZ57, lZ61, lZ79, lZ50, lZ42, lZ84, lZ55, lZ33, lZ75, lZ77, lZ73, lZ36, bff, btf, Option.isNone_some, Option.isNone_none, lZ9, lZ16, lZ3, retV, lZ44, lZ30, lZ25, lZ23, lZ14, List.getD_cons_zero, List.getD_cons_succ, w_add, w_addl, w_sub, w_subl, w_mull, w_mulr, decide_eq_true, decide_eq_false, addr_add0, Nat.add_zero, Nat.zero_add, toI_int, hro.Xld (show 1 < _ by simp), hro.Xld (show 3 < _ by simp)]
  refine X_call0 ((culletlaw04_cut_w_spec w9 G LG hG hlG).mono ?_)
  rintro P2 w10 ⟨hP2, hB⟩
  have hP2 := hP2.sl
  have hro := hro.up hB
  have hb := hb.up hB
  have hw := hw.up hB
  have hr := hr.up hB
  have hP := hP.up hB
  have B := B.trans (hB.mono B.size)
  clear hB
  clear hG
  generalize hqQ2 : LG.map lo16 = Q2 at hP2
  have lP2 : (Q2.map em16).length = Q2.length := List.length_map _
  have bQ2 : Q2.length ≤ 70368744175616 := by rw [← hqQ2, List.length_map]; exact hlG
  clear hqQ2
  simp (maxSteps := 1000000) (disch := omega) only [List.getElem_cons_zero, List.getElem_cons_succ, and_true, true_and, decide_true, decide_false, Bool.not_true, Bool.not_false, lZ40, lZ37, lZ32, lZ12, lZ26, lZ39, lZ22, lZ1, lZ4, lZ6, lZ0, lZ2, lZ5, lZ83, lZ34, lZ27, I.at, atL, atO, atP, lZ20, lZ18, lZ97, lZ98, evp, evs, lZ10, ↓reduceIte, Nat.reduceEqDiff, reduceCtorEq, Value.bool.injEq, Bool.false_eq_true, Bool.true_eq_false, lZ8, lZ7, lZ68, lZ43, lZ91, lZ81, lZ93, lZ82, lZ96, lZ46, lZ21, lZ67, lZ64, lZ49, lZ52, lZ59, lZ66, lZ95, lZ56, lZ76, lZ57, lZ61, lZ79, lZ50, lZ42, lZ84, lZ55, lZ33, lZ75, lZ77, lZ73, lZ36, bff, btf, Option.isNone_some, Option.isNone_none, lZ9, lZ16, lZ3, retV, lZ44, lZ30, lZ25, lZ23, lZ14, List.getD_cons_zero, List.getD_cons_succ, w_add, w_addl, w_sub, w_subl, w_mull, w_mulr, decide_eq_true, decide_eq_false, addr_add0, Nat.add_zero, Nat.zero_add, toI_int, hP.Xlen, lP]
  by_cases hbig : 1024 < Q.length
  · simp (maxSteps := 1000000) (disch := omega) only [List.getElem_cons_zero, List.getElem_cons_succ, and_true, true_and, decide_true, decide_false, Bool.not_true, Bool.not_false, lZ40, lZ37, lZ32, lZ12, lZ26, lZ39, lZ22, lZ1, lZ4, lZ6, lZ0, lZ2, lZ5, lZ83, lZ34, lZ27, I.at, atL, atO, atP, lZ20, lZ18, lZ97, lZ98, evp, evs, lZ10, ↓reduceIte, Nat.reduceEqDiff, reduceCtorEq, Value.bool.injEq, Bool.false_eq_true, Bool.true_eq_false, lZ8, lZ7, lZ68, lZ43, lZ91, lZ81, lZ93, lZ82, lZ96, lZ46, lZ21, lZ67, lZ64, lZ49, lZ52, lZ59, lZ66, lZ95, lZ56, lZ76, lZ57, lZ61, lZ79, lZ50, lZ42, lZ84, lZ55, lZ33, lZ75, lZ77, lZ73, lZ36, bff, btf, Option.isNone_some, Option.isNone_none, lZ9, lZ16, lZ3, retV, lZ44, lZ30, lZ25, lZ23, lZ14, List.getD_cons_zero, List.getD_cons_succ, w_add, w_addl, w_sub, w_subl, w_mull, w_mulr, decide_eq_true, decide_eq_false, addr_add0, Nat.add_zero, Nat.zero_add, toI_int]
    exact B
  simp (maxSteps := 1000000) (disch := omega) only [List.getElem_cons_zero, List.getElem_cons_succ, and_true, true_and, decide_true, decide_false, Bool.not_true, Bool.not_false, lZ40, lZ37, lZ32, lZ12, lZ26, lZ39, lZ22, lZ1, lZ4, lZ6, lZ0, lZ2, lZ5, lZ83, lZ34, lZ27, I.at, atL, atO, atP, lZ20, lZ18, lZ97, lZ98, evp, evs, lZ10, ↓reduceIte, Nat.reduceEqDiff, reduceCtorEq, Value.bool.injEq, Bool.false_eq_true, Bool.true_eq_false, lZ8, lZ7, lZ68, lZ43, lZ91, lZ81, lZ93, lZ82, lZ96, lZ46, lZ21, lZ67, lZ64, lZ49, lZ52, lZ59, lZ66, lZ95, lZ56, lZ76, lZ57, lZ61, lZ79, lZ50, lZ42, lZ84, lZ55, lZ33, lZ75, lZ77, lZ73, lZ36, bff, btf, Option.isNone_some, Option.isNone_none, lZ9, lZ16, lZ3, retV, lZ44, lZ30, lZ25, lZ23, lZ14, List.getD_cons_zero, List.getD_cons_succ, w_add, w_addl, w_sub, w_subl, w_mull, w_mulr, decide_eq_true, decide_eq_false, addr_add0, Nat.add_zero, Nat.zero_add, toI_int, hP2.Xlen, lP2]
  by_cases hbig2 : 1024 < Q2.length
  · simp (maxSteps := 1000000) (disch := omega) only [List.getElem_cons_zero, List.getElem_cons_succ, and_true, true_and, decide_true, decide_false, Bool.not_true, Bool.not_false, lZ40, lZ37, lZ32, lZ12, lZ26, lZ39, lZ22, lZ1, lZ4, lZ6, lZ0, lZ2, lZ5, lZ83, lZ34, lZ27, I.at, atL, atO, atP, lZ20, lZ18, lZ97, lZ98, evp, evs, lZ10, ↓reduceIte, Nat.reduceEqDiff, reduceCtorEq, Value.bool.injEq, Bool.false_eq_true, Bool.true_eq_false, lZ8, lZ7, lZ68, lZ43, lZ91, lZ81, lZ93, lZ82, lZ96, lZ46, lZ21, lZ67, lZ64, lZ49, lZ52, lZ59, lZ66, lZ95, lZ56, lZ76, lZ57, lZ61, lZ79, lZ50, lZ42, lZ84, lZ55, lZ33, lZ75, lZ77, lZ73, lZ36, bff, btf, Option.isNone_some, Option.isNone_none, lZ9, lZ16, lZ3, retV, lZ44, lZ30, lZ25, lZ23, lZ14, List.getD_cons_zero, List.getD_cons_succ, w_add, w_addl, w_sub, w_subl, w_mull, w_mulr, decide_eq_true, decide_eq_false, addr_add0, Nat.add_zero, Nat.zero_add, toI_int]
    exact B
  simp (maxSteps := 1000000) (disch := omega) only [List.getElem_cons_zero, List.getElem_cons_succ, and_true, true_and, decide_true, decide_false, Bool.not_true, Bool.not_false, lZ40, lZ37, lZ32, lZ12, lZ26, lZ39, lZ22, lZ1, lZ4, lZ6, lZ0, lZ2, lZ5, lZ83, lZ34, lZ27, I.at, atL, atO, atP, lZ20, lZ18, lZ97, lZ98, evp, evs, lZ10, ↓reduceIte, Nat.reduceEqDiff, reduceCtorEq, Value.bool.injEq, Bool.false_eq_true, Bool.true_eq_false, lZ8, lZ7, lZ68, lZ43, lZ91, lZ81, lZ93, lZ82, lZ96, lZ46, lZ21, lZ67, lZ64, lZ49, lZ52, lZ59, lZ66, lZ95, lZ56, lZ76, lZ57, lZ61, lZ79, lZ50, lZ42, lZ84, lZ55, lZ33, lZ75, lZ77, lZ73, lZ36, bff, btf, Option.isNone_some, Option.isNone_none, lZ9, lZ16, lZ3, retV, lZ44, lZ30, lZ25, lZ23, lZ14, List.getD_cons_zero, List.getD_cons_succ, w_add, w_addl, w_sub, w_subl, w_mull, w_mulr, decide_eq_true, decide_eq_false, addr_add0, Nat.add_zero, Nat.zero_add, toI_int, hr.Xldn (n := 2) rfl, hro.Xld (show 1 < _ by simp), hro.Xld (show 5 < _ by simp)]
  have tQ := tln_le Q
  have tQ2 := tln_le Q2
  refine X_call0 ((culletlaw04_Rings_partial_w_spec w10 rb rw P P2 (Q.map em16) (Q2.map em16) n hb hw hP hP2 (by omega) (by omega)).mono ?_)
  rw [lo16_map_em16, lo16_map_em16]
  rintro _ w11 ⟨hB, ⟨-, -, h0, sm, su, sv, m, u, v', rfl, om, ou, ov, hE⟩ | ⟨-, -, h0, sm, su, sv, rfl, om, ou, ov⟩ | ⟨hn, -⟩⟩
  rotate_left
  · have hro := hro.up hB
    have B := B.trans (hB.mono B.size)
    clear hB
    simp (maxSteps := 1000000) (disch := omega) only [List.getElem_cons_zero, List.getElem_cons_succ, and_true, true_and, decide_true, decide_false, Bool.not_true, Bool.not_false, lZ40, lZ37, lZ32, lZ12, lZ26, lZ39, lZ22, lZ1, lZ4, lZ6, lZ0, lZ2, lZ5, lZ83, lZ34, lZ27, I.at, atL, atO, atP, lZ20, lZ18, lZ97, lZ98, evp, evs, lZ10, ↓reduceIte, Nat.reduceEqDiff, reduceCtorEq, Value.bool.injEq, Bool.false_eq_true, Bool.true_eq_false, lZ8, lZ7, lZ68, lZ43, lZ91, lZ81, lZ93, lZ82, lZ96, lZ46, lZ21, lZ67, lZ64, lZ49, lZ52, lZ59, lZ66, lZ95, lZ56, lZ76, lZ57, lZ61, lZ79, lZ50, lZ42, lZ84, lZ55, lZ33, lZ75, lZ77, lZ73, lZ36, bff, btf, Option.isNone_some, Option.isNone_none, lZ9, lZ16, lZ3, retV, lZ44, lZ30, lZ25, lZ23, lZ14, List.getD_cons_zero, List.getD_cons_succ, w_add, w_addl, w_sub, w_subl, w_mull, w_mulr, decide_eq_true, decide_eq_false, addr_add0, Nat.add_zero, Nat.zero_add, toI_int, hro.Xld (show 5 < _ by simp), om.sl.Xlen, ou.sl.Xlen, ov.sl.Xlen, List.length_nil, show decide (((0 : Nat) : Int) = 0) = true from rfl]
    exact B
  · exact absurd ⟨by omega, by omega⟩ hn
  have om := om.sl
  have ou := ou.sl
  have ov := ov.sl
  have hro := hro.up hB
  have hb := hb.up hB
  have hw := hw.up hB
  have hr := hr.up hB
  have hP := hP.up hB
  have hP2 := hP2.up hB
  have B := B.trans (hB.mono B.size)
  clear hB
  obtain ⟨D, rfl⟩ : ∃ D : Nat, n = (D : Int) := ⟨n.toNat, by omega⟩
  rw [Int.toNat_natCast] at hE
  have hp := hE.whole
  obtain ⟨y1, y2, y3, y4⟩ := hE.lens
  have y5 := hE.mlen (N := 1024) (by rw [tr_len]; omega) (by rw [tr_len]; omega)
  have y6 := hp.lm
  have lm : (m.map em16).length = m.length := List.length_map _
  have lu : (u.map em16).length = u.length := List.length_map _
  have lv : (v'.map em16).length = v'.length := List.length_map _
  simp (maxSteps := 1000000) (disch := omega) only [List.getElem_cons_zero, List.getElem_cons_succ, and_true, true_and, decide_true, decide_false, Bool.not_true, Bool.not_false, lZ40, lZ37, lZ32, lZ12, lZ26, lZ39, lZ22, lZ1, lZ4, lZ6, lZ0, lZ2, lZ5, lZ83, lZ34, lZ27, I.at, atL, atO, atP, lZ20, lZ18, lZ97, lZ98, evp, evs, lZ10, ↓reduceIte, Nat.reduceEqDiff, reduceCtorEq, Value.bool.injEq, Bool.false_eq_true, Bool.true_eq_false, lZ8, lZ7, lZ68, lZ43, lZ91, lZ81, lZ93, lZ82, lZ96, lZ46, lZ21, lZ67, lZ64, lZ49, lZ52, lZ59, lZ66, lZ95, lZ56, lZ76, lZ57, lZ61, lZ79, lZ50, lZ42, lZ84, lZ55, lZ33, lZ75, lZ77, lZ73, lZ36, bff, btf, Option.isNone_some, Option.isNone_none, lZ9, lZ16, lZ3, retV, lZ44, lZ30, lZ25, lZ23, lZ14, List.getD_cons_zero, List.getD_cons_succ, w_add, w_addl, w_sub, w_subl, w_mull, w_mulr, decide_eq_true, decide_eq_false, addr_add0, Nat.add_zero, Nat.zero_add, toI_int, hro.Xld (show 5 < _ by simp)]
  refine X_call0 ((culletlaw04_neat_spec w11 sm (m.map em16) om (by omega)).mono ?_)
  rintro _ w12 ⟨rfl, rfl⟩
  simp (maxSteps := 1000000) (disch := omega) only [List.getElem_cons_zero, List.getElem_cons_succ, and_true, true_and, decide_true, decide_false, Bool.not_true, Bool.not_false, lZ40, lZ37, lZ32, lZ12, lZ26, lZ39, lZ22, lZ1, lZ4, lZ6, lZ0, lZ2, lZ5, lZ83, lZ34, lZ27, I.at, atL, atO, atP, lZ20, lZ18, lZ97, lZ98, evp, evs, lZ10, ↓reduceIte, Nat.reduceEqDiff, reduceCtorEq, Value.bool.injEq, Bool.false_eq_true, Bool.true_eq_false, lZ8, lZ7, lZ68, lZ43, lZ91, lZ81, lZ93, lZ82, lZ96, lZ46, lZ21, lZ67, lZ64, lZ49, lZ52, lZ59, lZ66, lZ95, lZ56, lZ76, lZ57, lZ61, lZ79, lZ50, lZ42, lZ84, lZ55, lZ33, lZ75, lZ77, lZ73, lZ36, bff, btf, Option.isNone_some, Option.isNone_none, lZ9, lZ16, lZ3, retV, lZ44, lZ30, lZ25, lZ23, lZ14, List.getD_cons_zero, List.getD_cons_succ, w_add, w_addl, w_sub, w_subl, w_mull, w_mulr, decide_eq_true, decide_eq_false, addr_add0, Nat.add_zero, Nat.zero_add, toI_int, show decide ((m.map em16).length = tln (m.map em16)) = true from decide_eq_true (by rw [tln_em16, lm]; exact len_tr hp.tm)]
  refine X_call0 ((culletlaw04_neat_spec w12 su (u.map em16) ou (by omega)).mono ?_)
  rintro _ w11 ⟨rfl, rfl⟩
  simp (maxSteps := 1000000) (disch := omega) only [List.getElem_cons_zero, List.getElem_cons_succ, and_true, true_and, decide_true, decide_false, Bool.not_true, Bool.not_false, lZ40, lZ37, lZ32, lZ12, lZ26, lZ39, lZ22, lZ1, lZ4, lZ6, lZ0, lZ2, lZ5, lZ83, lZ34, lZ27, I.at, atL, atO, atP, lZ20, lZ18, lZ97, lZ98, evp, evs, lZ10, ↓reduceIte, Nat.reduceEqDiff, reduceCtorEq, Value.bool.injEq, Bool.false_eq_true, Bool.true_eq_false, lZ8, lZ7, lZ68, lZ43, lZ91, lZ81, lZ93, lZ82, lZ96, lZ46, lZ21, lZ67, lZ64, lZ49, lZ52, lZ59, lZ66, lZ95, lZ56, lZ76, lZ57, lZ61, lZ79, lZ50, lZ42, lZ84, lZ55, lZ33, lZ75, lZ77, lZ73, lZ36, bff, btf, Option.isNone_some, Option.isNone_none, lZ9, lZ16, lZ3, retV, lZ44, lZ30, lZ25, lZ23, lZ14, List.getD_cons_zero, List.getD_cons_succ, w_add, w_addl, w_sub, w_subl, w_mull, w_mulr, decide_eq_true, decide_eq_false, addr_add0, Nat.add_zero, Nat.zero_add, toI_int, show decide ((u.map em16).length = tln (u.map em16)) = true from decide_eq_true (by rw [tln_em16, lu]; exact len_tr hp.tu)]
  refine X_call0 ((culletlaw04_neat_spec w11 sv (v'.map em16) ov (by omega)).mono ?_)
  rintro _ w12 ⟨rfl, rfl⟩
  rw [show decide ((v'.map em16).length = tln (v'.map em16)) = true from decide_eq_true (by rw [tln_em16, lv]; exact len_tr hp.tv)]
  simp (maxSteps := 1000000) (disch := omega) only [List.getElem_cons_zero, List.getElem_cons_succ, and_true, true_and, decide_true, decide_false, Bool.not_true, Bool.not_false, lZ40, lZ37, lZ32, lZ12, lZ26, lZ39, lZ22, lZ1, lZ4, lZ6, lZ0, lZ2, lZ5, lZ83, lZ34, lZ27, I.at, atL, atO, atP, lZ20, lZ18, lZ97, lZ98, evp, evs, lZ10, ↓reduceIte, Nat.reduceEqDiff, reduceCtorEq, Value.bool.injEq, Bool.false_eq_true, Bool.true_eq_false, lZ8, lZ7, lZ68, lZ43, lZ91, lZ81, lZ93, lZ82, lZ96, lZ46, lZ21, lZ67, lZ64, lZ49, lZ52, lZ59, lZ66, lZ95, lZ56, lZ76, lZ57, lZ61, lZ79, lZ50, lZ42, lZ84, lZ55, lZ33, lZ75, lZ77, lZ73, lZ36, bff, btf, Option.isNone_some, Option.isNone_none, lZ9, lZ16, lZ3, retV, lZ44, lZ30, lZ25, lZ23, lZ14, List.getD_cons_zero, List.getD_cons_succ, w_add, w_addl, w_sub, w_subl, w_mull, w_mulr, decide_eq_true, decide_eq_false, addr_add0, Nat.add_zero, Nat.zero_add, toI_int, om.Xlen, ou.Xlen, ov.Xlen, lm, lu, lv, hro.Xld (show 5 < _ by simp), hr.Xldn (n := 2) rfl, hro.Xld (show 1 < _ by simp)]
  refine X_call0 ((culletlaw04_Rings_mul_w_spec w12 rb rw su P _ _ hb hw ou hP (by omega) (by omega)).mono ?_)
  rw [lo16_map_em16, lo16_map_em16]
  rintro _ w13 ⟨hB, ⟨-, -, sa, a, rfl, oa, ta, ha, la⟩ | ⟨hn, -⟩⟩
  rotate_left
  · exact absurd ⟨by omega, by omega⟩ hn
  have oa := oa.sl
  have hro := hro.up hB
  have hb := hb.up hB
  have hw := hw.up hB
  have hr := hr.up hB
  have hP := hP.up hB
  have hP2 := hP2.up hB
  have om := om.up hB
  have ou := ou.up hB
  have ov := ov.up hB
  have B := B.trans (hB.mono B.size)
  clear hB
  simp (maxSteps := 1000000) (disch := omega) only [List.getElem_cons_zero, List.getElem_cons_succ, and_true, true_and, decide_true, decide_false, Bool.not_true, Bool.not_false, lZ40, lZ37, lZ32, lZ12, lZ26, lZ39, lZ22, lZ1, lZ4, lZ6, lZ0, lZ2, lZ5, lZ83, lZ34, lZ27, I.at, atL, atO, atP, lZ20, lZ18, lZ97, lZ98, evp, evs, lZ10, ↓reduceIte, Nat.reduceEqDiff, reduceCtorEq, Value.bool.injEq, Bool.false_eq_true, Bool.true_eq_false, lZ8, lZ7, lZ68, lZ43, lZ91, lZ81, lZ93, lZ82, lZ96, lZ46, lZ21, lZ67, lZ64, lZ49, lZ52, lZ59, lZ66, lZ95, lZ56, lZ76, lZ57, lZ61, lZ79, lZ50, lZ42, lZ84, lZ55, lZ33, lZ75, lZ77, lZ73, lZ36, bff, btf, Option.isNone_some, Option.isNone_none, lZ9, lZ16, lZ3, retV, lZ44, lZ30, lZ25, lZ23, lZ14, List.getD_cons_zero, List.getD_cons_succ, w_add, w_addl, w_sub, w_subl, w_mull, w_mulr, decide_eq_true, decide_eq_false, addr_add0, Nat.add_zero, Nat.zero_add, toI_int, hr.Xldn (n := 2) rfl, hro.Xld (show 1 < _ by simp)]
  refine X_call0 ((culletlaw04_Rings_mul_w_spec w13 rb rw sv P2 _ _ hb hw ov hP2 (by omega) (by omega)).mono ?_)
  rw [lo16_map_em16, lo16_map_em16]
  rintro _ w14 ⟨hB, ⟨-, -, sb, b, rfl, ob, tb, hbb, lb⟩ | ⟨hn, -⟩⟩
  rotate_left
  · exact absurd ⟨by omega, by omega⟩ hn
  have ob := ob.sl
  have hro := hro.up hB
  have hb := hb.up hB
  have hw := hw.up hB
  have hr := hr.up hB
  have hP := hP.up hB
  have hP2 := hP2.up hB
  have om := om.up hB
  have ou := ou.up hB
  have ov := ov.up hB
  have oa := oa.up hB
  have B := B.trans (hB.mono B.size)
  clear hB
  have la' : (a.map em16).length = a.length := List.length_map _
  have lb' : (b.map em16).length = b.length := List.length_map _
  simp (maxSteps := 1000000) (disch := omega) only [List.getElem_cons_zero, List.getElem_cons_succ, and_true, true_and, decide_true, decide_false, Bool.not_true, Bool.not_false, lZ40, lZ37, lZ32, lZ12, lZ26, lZ39, lZ22, lZ1, lZ4, lZ6, lZ0, lZ2, lZ5, lZ83, lZ34, lZ27, I.at, atL, atO, atP, lZ20, lZ18, lZ97, lZ98, evp, evs, lZ10, ↓reduceIte, Nat.reduceEqDiff, reduceCtorEq, Value.bool.injEq, Bool.false_eq_true, Bool.true_eq_false, lZ8, lZ7, lZ68, lZ43, lZ91, lZ81, lZ93, lZ82, lZ96, lZ46, lZ21, lZ67, lZ64, lZ49, lZ52, lZ59, lZ66, lZ95, lZ56, lZ76, lZ57, lZ61, lZ79, lZ50, lZ42, lZ84, lZ55, lZ33, lZ75, lZ77, lZ73, lZ36, bff, btf, Option.isNone_some, Option.isNone_none, lZ9, lZ16, lZ3, retV, lZ44, lZ30, lZ25, lZ23, lZ14, List.getD_cons_zero, List.getD_cons_succ, w_add, w_addl, w_sub, w_subl, w_mull, w_mulr, decide_eq_true, decide_eq_false, addr_add0, Nat.add_zero, Nat.zero_add, toI_int, hr.Xldn (n := 2) rfl, hro.Xld (show 1 < _ by simp)]
  refine X_call0 ((culletlaw04_Rings_add_w_spec w14 rb rw sa sb _ _ hb hw oa ob (by omega) (by omega)).mono ?_)
  rw [lo16_map_em16, lo16_map_em16]
  rintro sc w15 ⟨hB, c, oc, tc, hc, lc⟩
  have oc := oc.sl
  have hro := hro.up hB
  have hb := hb.up hB
  have hw := hw.up hB
  have hr := hr.up hB
  have hP := hP.up hB
  have hP2 := hP2.up hB
  have om := om.up hB
  have ou := ou.up hB
  have ov := ov.up hB
  have B := B.trans (hB.mono B.size)
  clear hB
  clear oa ob
  obtain rfl : m = c := (tr_inj tc hp.tm (by rw [hc, ha, hbb, hp.eq])).symm
  simp (maxSteps := 1000000) (disch := omega) only [List.getElem_cons_zero, List.getElem_cons_succ, and_true, true_and, decide_true, decide_false, Bool.not_true, Bool.not_false, lZ40, lZ37, lZ32, lZ12, lZ26, lZ39, lZ22, lZ1, lZ4, lZ6, lZ0, lZ2, lZ5, lZ83, lZ34, lZ27, I.at, atL, atO, atP, lZ20, lZ18, lZ97, lZ98, evp, evs, lZ10, ↓reduceIte, Nat.reduceEqDiff, reduceCtorEq, Value.bool.injEq, Bool.false_eq_true, Bool.true_eq_false, lZ8, lZ7, lZ68, lZ43, lZ91, lZ81, lZ93, lZ82, lZ96, lZ46, lZ21, lZ67, lZ64, lZ49, lZ52, lZ59, lZ66, lZ95, lZ56, lZ76, lZ57, lZ61, lZ79, lZ50, lZ42, lZ84, lZ55, lZ33, lZ75, lZ77, lZ73, lZ36, bff, btf, Option.isNone_some, Option.isNone_none, lZ9, lZ16, lZ3, retV, lZ44, lZ30, lZ25, lZ23, lZ14, List.getD_cons_zero, List.getD_cons_succ, w_add, w_addl, w_sub, w_subl, w_mull, w_mulr, decide_eq_true, decide_eq_false, addr_add0, Nat.add_zero, Nat.zero_add, toI_int]
  refine X_call0 ((culletlaw04_same_spec w15 sc sm _ _ oc om (by omega) (by omega)).mono ?_)
  rintro _ w16 ⟨rfl, hk⟩
  have hB := hk.1
  have hro := hro.up hB
  have hb := hb.up hB
  have hw := hw.up hB
  have hr := hr.up hB
  have hP := hP.up hB
  have hP2 := hP2.up hB
  have om := om.up hB
  have ou := ou.up hB
  have ov := ov.up hB
  have B := B.trans (hB.mono B.size)
  clear hB
  clear hk oc
  simp (maxSteps := 1000000) (disch := omega) only [List.getElem_cons_zero, List.getElem_cons_succ, and_true, true_and, decide_true, decide_false, Bool.not_true, Bool.not_false, lZ40, lZ37, lZ32, lZ12, lZ26, lZ39, lZ22, lZ1, lZ4, lZ6, lZ0, lZ2, lZ5, lZ83, lZ34, lZ27, I.at, atL, atO, atP, lZ20, lZ18, lZ97, lZ98, evp, evs, lZ10, ↓reduceIte, Nat.reduceEqDiff, reduceCtorEq, Value.bool.injEq, Bool.false_eq_true, Bool.true_eq_false, lZ8, lZ7, lZ68, lZ43, lZ91, lZ81, lZ93, lZ82, lZ96, lZ46, lZ21, lZ67, lZ64, lZ49, lZ52, lZ59, lZ66, lZ95, lZ56, lZ76, lZ57, lZ61, lZ79, lZ50, lZ42, lZ84, lZ55, lZ33, lZ75, lZ77, lZ73, lZ36, bff, btf, Option.isNone_some, Option.isNone_none, lZ9, lZ16, lZ3, retV, lZ44, lZ30, lZ25, lZ23, lZ14, List.getD_cons_zero, List.getD_cons_succ, w_add, w_addl, w_sub, w_subl, w_mull, w_mulr, decide_eq_true, decide_eq_false, addr_add0, Nat.add_zero, Nat.zero_add, toI_int, hr.Xldn (n := 2) rfl, hro.Xld (show 1 < _ by simp)]
  refine X_call0 ((culletlaw04_Rings_gcd_w_spec w16 rb rw su sv _ _ hb hw ou ov (by omega) (by omega)).mono ?_)
  rw [lo16_map_em16, lo16_map_em16]
  rintro _ w17 ⟨hB, ⟨-, -, sg, g, rfl, og, tg, hd1, hd2, -, htop, lg⟩ | ⟨hn, -⟩⟩
  rotate_left
  · exact absurd ⟨by omega, by omega⟩ hn
  have og := og.sl
  have hro := hro.up hB
  have hb := hb.up hB
  have hw := hw.up hB
  have hr := hr.up hB
  have hP := hP.up hB
  have hP2 := hP2.up hB
  have om := om.up hB
  have ov := ov.up hB
  have B := B.trans (hB.mono B.size)
  clear hB
  clear ou
  obtain rfl : g = [1] := by
    obtain ⟨p, q, hpp, hpq, he⟩ := hp.cop
    exact dv_one tg htop (he ▸ (hd1.mul hpp).add (hd2.mul hpq))
  simp (maxSteps := 1000000) (disch := omega) only [List.getElem_cons_zero, List.getElem_cons_succ, and_true, true_and, decide_true, decide_false, Bool.not_true, Bool.not_false, lZ40, lZ37, lZ32, lZ12, lZ26, lZ39, lZ22, lZ1, lZ4, lZ6, lZ0, lZ2, lZ5, lZ83, lZ34, lZ27, I.at, atL, atO, atP, lZ20, lZ18, lZ97, lZ98, evp, evs, lZ10, ↓reduceIte, Nat.reduceEqDiff, reduceCtorEq, Value.bool.injEq, Bool.false_eq_true, Bool.true_eq_false, lZ8, lZ7, lZ68, lZ43, lZ91, lZ81, lZ93, lZ82, lZ96, lZ46, lZ21, lZ67, lZ64, lZ49, lZ52, lZ59, lZ66, lZ95, lZ56, lZ76, lZ57, lZ61, lZ79, lZ50, lZ42, lZ84, lZ55, lZ33, lZ75, lZ77, lZ73, lZ36, bff, btf, Option.isNone_some, Option.isNone_none, lZ9, lZ16, lZ3, retV, lZ44, lZ30, lZ25, lZ23, lZ14, List.getD_cons_zero, List.getD_cons_succ, w_add, w_addl, w_sub, w_subl, w_mull, w_mulr, decide_eq_true, decide_eq_false, addr_add0, Nat.add_zero, Nat.zero_add, toI_int]
  refine X_bsl (zs := [(⟨1⟩ : El 16)]) (by rfl) (by rfl) fun c1 w18 hc1 hB => ?_
  have hro := hro.up hB
  have hb := hb.up hB
  have hw := hw.up hB
  have hr := hr.up hB
  have hP := hP.up hB
  have hP2 := hP2.up hB
  have om := om.up hB
  have ov := ov.up hB
  have og := og.up hB
  have B := B.trans (hB.mono B.size)
  clear hB
  simp (maxSteps := 1000000) (disch := omega) only [List.getElem_cons_zero, List.getElem_cons_succ, and_true, true_and, decide_true, decide_false, Bool.not_true, Bool.not_false, lZ40, lZ37, lZ32, lZ12, lZ26, lZ39, lZ22, lZ1, lZ4, lZ6, lZ0, lZ2, lZ5, lZ83, lZ34, lZ27, I.at, atL, atO, atP, lZ20, lZ18, lZ97, lZ98, evp, evs, lZ10, ↓reduceIte, Nat.reduceEqDiff, reduceCtorEq, Value.bool.injEq, Bool.false_eq_true, Bool.true_eq_false, lZ8, lZ7, lZ68, lZ43, lZ91, lZ81, lZ93, lZ82, lZ96, lZ46, lZ21, lZ67, lZ64, lZ49, lZ52, lZ59, lZ66, lZ95, lZ56, lZ76, lZ57, lZ61, lZ79, lZ50, lZ42, lZ84, lZ55, lZ33, lZ75, lZ77, lZ73, lZ36, bff, btf, Option.isNone_some, Option.isNone_none, lZ9, lZ16, lZ3, retV, lZ44, lZ30, lZ25, lZ23, lZ14, List.getD_cons_zero, List.getD_cons_succ, w_add, w_addl, w_sub, w_subl, w_mull, w_mulr, decide_eq_true, decide_eq_false, addr_add0, Nat.add_zero, Nat.zero_add, toI_int]
  refine X_call0 ((culletlaw04_same_spec w18 sg c1 _ _ og hc1.sl (by simp) (by simp)).mono ?_)
  rintro _ w19 ⟨rfl, hk⟩
  have hB := hk.1
  have hro := hro.up hB
  have hb := hb.up hB
  have hw := hw.up hB
  have hr := hr.up hB
  have hP := hP.up hB
  have hP2 := hP2.up hB
  have om := om.up hB
  have ov := ov.up hB
  have B := B.trans (hB.mono B.size)
  clear hB
  clear hk hc1 og
  simp (maxSteps := 1000000) (disch := omega) only [List.getElem_cons_zero, List.getElem_cons_succ, and_true, true_and, decide_true, decide_false, Bool.not_true, Bool.not_false, lZ40, lZ37, lZ32, lZ12, lZ26, lZ39, lZ22, lZ1, lZ4, lZ6, lZ0, lZ2, lZ5, lZ83, lZ34, lZ27, I.at, atL, atO, atP, lZ20, lZ18, lZ97, lZ98, evp, evs, lZ10, ↓reduceIte, Nat.reduceEqDiff, reduceCtorEq, Value.bool.injEq, Bool.false_eq_true, Bool.true_eq_false, lZ8, lZ7, lZ68, lZ43, lZ91, lZ81, lZ93, lZ82, lZ96, lZ46, lZ21, lZ67, lZ64, lZ49, lZ52, lZ59, lZ66, lZ95, lZ56, lZ76, lZ57, lZ61, lZ79, lZ50, lZ42, lZ84, lZ55, lZ33, lZ75, lZ77, lZ73, lZ36, bff, btf, Option.isNone_some, Option.isNone_none, lZ9, lZ16, lZ3, retV, lZ44, lZ30, lZ25, lZ23, lZ14, List.getD_cons_zero, List.getD_cons_succ, w_add, w_addl, w_sub, w_subl, w_mull, w_mulr, decide_eq_true, decide_eq_false, addr_add0, Nat.add_zero, Nat.zero_add, toI_int, show decide (List.map em16 [(1 : El 16)] = [(⟨1⟩ : El 16)]) = true from rfl]
  refine WP_dops ?_
  simp (maxSteps := 1000000) (disch := omega) only [lZ38, lZ28, lZ15, lZ29, lZ17, lZ72, lZ11, lZ24, lZ19, lZ92, List.mem_cons, List.not_mem_nil, or_self, List.getElem_cons_zero, List.getElem_cons_succ, or_false, false_or, false_implies, implies_true, forall_const, lZ60, lZ41, lZ78, lZ71, lZ86, lZ94, lZ99, lZ87, lZ13, lZ88, lZ65, lZ74, lZ45, lZ89, lZ58, lZ85, lZ69, lZ54, lZ62, lZ90, lZ47, lZ70, lZ31, lZ63, lZ80, lZ35, lZ48, lZ53, lZ51, List.getElem_cons_zero, List.getElem_cons_succ, and_true, true_and, decide_true, decide_false, Bool.not_true, Bool.not_false, lZ40, lZ37, lZ32, lZ12, lZ26, lZ39, lZ22, lZ1, lZ4, lZ6, lZ0, lZ2, lZ5, lZ83, lZ34, lZ27, I.at, atL, atO, atP, lZ20, lZ18, lZ97, lZ98, evp, evs, lZ10, ↓reduceIte, Nat.reduceEqDiff, reduceCtorEq, Value.bool.injEq, Bool.false_eq_true, Bool.true_eq_false, lZ8, lZ7, lZ68, lZ43, lZ91, lZ81, lZ93, lZ82, lZ96, lZ46, lZ21, lZ67, lZ64, lZ49, lZ52, lZ59, lZ66, lZ95, lZ56, lZ76, lZ57, lZ61, lZ79, lZ50, lZ42, lZ84, lZ55, lZ33, lZ75, lZ77, lZ73, lZ36, bff, btf, Option.isNone_some, Option.isNone_none, lZ9, lZ16, lZ3, retV, lZ44, lZ30, lZ25, lZ23, lZ14, List.getD_cons_zero, List.getD_cons_succ, w_add, w_addl, w_sub, w_subl, w_mull, w_mulr, decide_eq_true, decide_eq_false, addr_add0, Nat.add_zero, Nat.zero_add, toI_int]
  refine E_call0 ((culletlaw04_high_spec w19.drew P (Q.map em16) hP.drew (by omega)).mono ?_)
  rintro _ w20 ⟨rfl, rfl⟩
  rw [tln_em16]
  have zd : Fw.sees Try.prog (.ld (.c (.pointer (some ⟨bo, 5, none⟩)))) w19.drew (.int .i64 (D : Int)) = True := hro.drew.sees (o := 5) (by simp) Try.prog
  simp (maxSteps := 1000000) (disch := omega) only [lZ38, lZ28, lZ15, lZ29, lZ17, lZ72, lZ11, lZ24, lZ19, lZ92, List.mem_cons, List.not_mem_nil, or_self, List.getElem_cons_zero, List.getElem_cons_succ, or_false, false_or, false_implies, implies_true, forall_const, lZ60, lZ41, lZ78, lZ71, lZ86, lZ94, lZ99, lZ87, lZ13, lZ88, lZ65, lZ74, lZ45, lZ89, lZ58, lZ85, lZ69, lZ54, lZ62, lZ90, lZ47, lZ70, lZ31, lZ63, lZ80, lZ35, lZ48, lZ53, lZ51, List.getElem_cons_zero, List.getElem_cons_succ, and_true, true_and, decide_true, decide_false, Bool.not_true, Bool.not_false, lZ40, lZ37, lZ32, lZ12, lZ26, lZ39, lZ22, lZ1, lZ4, lZ6, lZ0, lZ2, lZ5, lZ83, lZ34, lZ27, I.at, atL, atO, atP, lZ20, lZ18, lZ97, lZ98, evp, evs, lZ10, ↓reduceIte, Nat.reduceEqDiff, reduceCtorEq, Value.bool.injEq, Bool.false_eq_true, Bool.true_eq_false, lZ8, lZ7, lZ68, lZ43, lZ91, lZ81, lZ93, lZ82, lZ96, lZ46, lZ21, lZ67, lZ64, lZ49, lZ52, lZ59, lZ66, lZ95, lZ56, lZ76, lZ57, lZ61, lZ79, lZ50, lZ42, lZ84, lZ55, lZ33, lZ75, lZ77, lZ73, lZ36, bff, btf, Option.isNone_some, Option.isNone_none, lZ9, lZ16, lZ3, retV, lZ44, lZ30, lZ25, lZ23, lZ14, List.getD_cons_zero, List.getD_cons_succ, w_add, w_addl, w_sub, w_subl, w_mull, w_mulr, decide_eq_true, decide_eq_false, addr_add0, Nat.add_zero, Nat.zero_add, toI_int, hro.drew.Eld (show 5 < _ by simp), zd]
  have B := B.trans ((bel_drew w19).mono B.size)
  have hro := hro.drew
  have hb := hb.drew
  have hw := hw.drew
  have hr := hr.drew
  have hP := hP.drew
  have hP2 := hP2.drew
  have om := om.drew
  have ov := ov.drew
  generalize w19.drew = w19 at *
  by_cases hsm : tln Q ≤ D
  · obtain ⟨rfl, rfl⟩ := y3 hsm
    simp (maxSteps := 1000000) (disch := omega) only [List.getElem_cons_zero, List.getElem_cons_succ, and_true, true_and, decide_true, decide_false, Bool.not_true, Bool.not_false, lZ40, lZ37, lZ32, lZ12, lZ26, lZ39, lZ22, lZ1, lZ4, lZ6, lZ0, lZ2, lZ5, lZ83, lZ34, lZ27, I.at, atL, atO, atP, lZ20, lZ18, lZ97, lZ98, evp, evs, lZ10, ↓reduceIte, Nat.reduceEqDiff, reduceCtorEq, Value.bool.injEq, Bool.false_eq_true, Bool.true_eq_false, lZ8, lZ7, lZ68, lZ43, lZ91, lZ81, lZ93, lZ82, lZ96, lZ46, lZ21, lZ67, lZ64, lZ49, lZ52, lZ59, lZ66, lZ95, lZ56, lZ76, lZ57, lZ61, lZ79, lZ50, lZ42, lZ84, lZ55, lZ33, lZ75, lZ77, lZ73, lZ36, bff, btf, Option.isNone_some, Option.isNone_none, lZ9, lZ16, lZ3, retV, lZ44, lZ30, lZ25, lZ23, lZ14, List.getD_cons_zero, List.getD_cons_succ, w_add, w_addl, w_sub, w_subl, w_mull, w_mulr, decide_eq_true, decide_eq_false, addr_add0, Nat.add_zero, Nat.zero_add, toI_int, hr.Xldn (n := 2) rfl, hro.Xld (show 1 < _ by simp)]
    refine X_call0 ((culletlaw04_Rings_trim_w_spec w19 rb rw P _ hb hw hP (by omega)).mono ?_)
    rw [lo16_map_em16]
    rintro st w20 ⟨hB, f, of, tf, hcf, hlf⟩
    have of := of.sl
    have om := om.up hB
    have ov := ov.up hB
    have B := B.trans (hB.mono B.size)
    clear hB
    obtain rfl : f = tr Q := tr_inj tf (tr_tr Q) (by rw [hcf, tr_co])
    simp (maxSteps := 1000000) (disch := omega) only [List.getElem_cons_zero, List.getElem_cons_succ, and_true, true_and, decide_true, decide_false, Bool.not_true, Bool.not_false, lZ40, lZ37, lZ32, lZ12, lZ26, lZ39, lZ22, lZ1, lZ4, lZ6, lZ0, lZ2, lZ5, lZ83, lZ34, lZ27, I.at, atL, atO, atP, lZ20, lZ18, lZ97, lZ98, evp, evs, lZ10, ↓reduceIte, Nat.reduceEqDiff, reduceCtorEq, Value.bool.injEq, Bool.false_eq_true, Bool.true_eq_false, lZ8, lZ7, lZ68, lZ43, lZ91, lZ81, lZ93, lZ82, lZ96, lZ46, lZ21, lZ67, lZ64, lZ49, lZ52, lZ59, lZ66, lZ95, lZ56, lZ76, lZ57, lZ61, lZ79, lZ50, lZ42, lZ84, lZ55, lZ33, lZ75, lZ77, lZ73, lZ36, bff, btf, Option.isNone_some, Option.isNone_none, lZ9, lZ16, lZ3, retV, lZ44, lZ30, lZ25, lZ23, lZ14, List.getD_cons_zero, List.getD_cons_succ, w_add, w_addl, w_sub, w_subl, w_mull, w_mulr, decide_eq_true, decide_eq_false, addr_add0, Nat.add_zero, Nat.zero_add, toI_int]
    refine X_call0 ((culletlaw04_same_spec w20 sm st _ _ om of (by omega) (by omega)).mono ?_)
    rintro _ w21 ⟨rfl, hk⟩
    have hB := hk.1
    have ov := ov.up hB
    have B := B.trans (hB.mono B.size)
    clear hB
    clear hk
    simp only [List.map_nil] at ov
    simp (maxSteps := 1000000) (disch := omega) only [List.getElem_cons_zero, List.getElem_cons_succ, and_true, true_and, decide_true, decide_false, Bool.not_true, Bool.not_false, lZ40, lZ37, lZ32, lZ12, lZ26, lZ39, lZ22, lZ1, lZ4, lZ6, lZ0, lZ2, lZ5, lZ83, lZ34, lZ27, I.at, atL, atO, atP, lZ20, lZ18, lZ97, lZ98, evp, evs, lZ10, ↓reduceIte, Nat.reduceEqDiff, reduceCtorEq, Value.bool.injEq, Bool.false_eq_true, Bool.true_eq_false, lZ8, lZ7, lZ68, lZ43, lZ91, lZ81, lZ93, lZ82, lZ96, lZ46, lZ21, lZ67, lZ64, lZ49, lZ52, lZ59, lZ66, lZ95, lZ56, lZ76, lZ57, lZ61, lZ79, lZ50, lZ42, lZ84, lZ55, lZ33, lZ75, lZ77, lZ73, lZ36, bff, btf, Option.isNone_some, Option.isNone_none, lZ9, lZ16, lZ3, retV, lZ44, lZ30, lZ25, lZ23, lZ14, List.getD_cons_zero, List.getD_cons_succ, w_add, w_addl, w_sub, w_subl, w_mull, w_mulr, decide_eq_true, decide_eq_false, addr_add0, Nat.add_zero, Nat.zero_add, toI_int, ov.Xlen, List.length_nil, show decide (((0 : Nat) : Int) = 0) = true from rfl]
    exact B
  simp (maxSteps := 1000000) (disch := omega) only [List.getElem_cons_zero, List.getElem_cons_succ, and_true, true_and, decide_true, decide_false, Bool.not_true, Bool.not_false, lZ40, lZ37, lZ32, lZ12, lZ26, lZ39, lZ22, lZ1, lZ4, lZ6, lZ0, lZ2, lZ5, lZ83, lZ34, lZ27, I.at, atL, atO, atP, lZ20, lZ18, lZ97, lZ98, evp, evs, lZ10, ↓reduceIte, Nat.reduceEqDiff, reduceCtorEq, Value.bool.injEq, Bool.false_eq_true, Bool.true_eq_false, lZ8, lZ7, lZ68, lZ43, lZ91, lZ81, lZ93, lZ82, lZ96, lZ46, lZ21, lZ67, lZ64, lZ49, lZ52, lZ59, lZ66, lZ95, lZ56, lZ76, lZ57, lZ61, lZ79, lZ50, lZ42, lZ84, lZ55, lZ33, lZ75, lZ77, lZ73, lZ36, bff, btf, Option.isNone_some, Option.isNone_none, lZ9, lZ16, lZ3, retV, lZ44, lZ30, lZ25, lZ23, lZ14, List.getD_cons_zero, List.getD_cons_succ, w_add, w_addl, w_sub, w_subl, w_mull, w_mulr, decide_eq_true, decide_eq_false, addr_add0, Nat.add_zero, Nat.zero_add, toI_int]
  refine WP_dops ?_
  simp (maxSteps := 1000000) (disch := omega) only [lZ38, lZ28, lZ15, lZ29, lZ17, lZ72, lZ11, lZ24, lZ19, lZ92, List.mem_cons, List.not_mem_nil, or_self, List.getElem_cons_zero, List.getElem_cons_succ, or_false, false_or, false_implies, implies_true, forall_const, lZ60, lZ41, lZ78, lZ71, lZ86, lZ94, lZ99, lZ87, lZ13, lZ88, lZ65, lZ74, lZ45, lZ89, lZ58, lZ85, lZ69, lZ54, lZ62, lZ90, lZ47, lZ70, lZ31, lZ63, lZ80, lZ35, lZ48, lZ53, lZ51, List.getElem_cons_zero, List.getElem_cons_succ, and_true, true_and, decide_true, decide_false, Bool.not_true, Bool.not_false, lZ40, lZ37, lZ32, lZ12, lZ26, lZ39, lZ22, lZ1, lZ4, lZ6, lZ0, lZ2, lZ5, lZ83, lZ34, lZ27, I.at, atL, atO, atP, lZ20, lZ18, lZ97, lZ98, evp, evs, lZ10, ↓reduceIte, Nat.reduceEqDiff, reduceCtorEq, Value.bool.injEq, Bool.false_eq_true, Bool.true_eq_false, lZ8, lZ7, lZ68, lZ43, lZ91, lZ81, lZ93, lZ82, lZ96, lZ46, lZ21, lZ67, lZ64, lZ49, lZ52, lZ59, lZ66, lZ95, lZ56, lZ76, lZ57, lZ61, lZ79, lZ50, lZ42, lZ84, lZ55, lZ33, lZ75, lZ77, lZ73, lZ36, bff, btf, Option.isNone_some, Option.isNone_none, lZ9, lZ16, lZ3, retV, lZ44, lZ30, lZ25, lZ23, lZ14, List.getD_cons_zero, List.getD_cons_succ, w_add, w_addl, w_sub, w_subl, w_mull, w_mulr, decide_eq_true, decide_eq_false, addr_add0, Nat.add_zero, Nat.zero_add, toI_int]
  refine E_call0 ((culletlaw04_high_spec w19.drew P2 (Q2.map em16) hP2.drew (by omega)).mono ?_)
  rintro _ w20 ⟨rfl, rfl⟩
  rw [tln_em16]
  simp (maxSteps := 1000000) (disch := omega) only [lZ38, lZ28, lZ15, lZ29, lZ17, lZ72, lZ11, lZ24, lZ19, lZ92, List.mem_cons, List.not_mem_nil, or_self, List.getElem_cons_zero, List.getElem_cons_succ, or_false, false_or, false_implies, implies_true, forall_const, lZ60, lZ41, lZ78, lZ71, lZ86, lZ94, lZ99, lZ87, lZ13, lZ88, lZ65, lZ74, lZ45, lZ89, lZ58, lZ85, lZ69, lZ54, lZ62, lZ90, lZ47, lZ70, lZ31, lZ63, lZ80, lZ35, lZ48, lZ53, lZ51, List.getElem_cons_zero, List.getElem_cons_succ, and_true, true_and, decide_true, decide_false, Bool.not_true, Bool.not_false, lZ40, lZ37, lZ32, lZ12, lZ26, lZ39, lZ22, lZ1, lZ4, lZ6, lZ0, lZ2, lZ5, lZ83, lZ34, lZ27, I.at, atL, atO, atP, lZ20, lZ18, lZ97, lZ98, evp, evs, lZ10, ↓reduceIte, Nat.reduceEqDiff, reduceCtorEq, Value.bool.injEq, Bool.false_eq_true, Bool.true_eq_false, lZ8, lZ7, lZ68, lZ43, lZ91, lZ81, lZ93, lZ82, lZ96, lZ46, lZ21, lZ67, lZ64, lZ49, lZ52, lZ59, lZ66, lZ95, lZ56, lZ76, lZ57, lZ61, lZ79, lZ50, lZ42, lZ84, lZ55, lZ33, lZ75, lZ77, lZ73, lZ36, bff, btf, Option.isNone_some, Option.isNone_none, lZ9, lZ16, lZ3, retV, lZ44, lZ30, lZ25, lZ23, lZ14, List.getD_cons_zero, List.getD_cons_succ, w_add, w_addl, w_sub, w_subl, w_mull, w_mulr, decide_eq_true, decide_eq_false, addr_add0, Nat.add_zero, Nat.zero_add, toI_int]
  refine E_call0 ((culletlaw04_high_spec w19.drew P (Q.map em16) hP.drew (by omega)).mono ?_)
  rintro _ w20 ⟨rfl, rfl⟩
  rw [tln_em16, show ((tln Q : Int) - 1) = ((tln Q - 1 : Nat) : Int) by omega]
  have B := B.trans ((bel_drew w19).mono B.size)
  have hro := hro.drew
  have hb := hb.drew
  have hw := hw.drew
  have hr := hr.drew
  have hP := hP.drew
  have hP2 := hP2.drew
  have om := om.drew
  have ov := ov.drew
  generalize w19.drew = w19 at *
  by_cases hgf : tln Q2 < tln Q
  focus
    have y7 := y4 (by omega) hgf
    simp (maxSteps := 1000000) (disch := omega) only [lZ38, lZ28, lZ15, lZ29, lZ17, lZ72, lZ11, lZ24, lZ19, lZ92, List.mem_cons, List.not_mem_nil, or_self, List.getElem_cons_zero, List.getElem_cons_succ, or_false, false_or, false_implies, implies_true, forall_const, lZ60, lZ41, lZ78, lZ71, lZ86, lZ94, lZ99, lZ87, lZ13, lZ88, lZ65, lZ74, lZ45, lZ89, lZ58, lZ85, lZ69, lZ54, lZ62, lZ90, lZ47, lZ70, lZ31, lZ63, lZ80, lZ35, lZ48, lZ53, lZ51, List.getElem_cons_zero, List.getElem_cons_succ, and_true, true_and, decide_true, decide_false, Bool.not_true, Bool.not_false, lZ40, lZ37, lZ32, lZ12, lZ26, lZ39, lZ22, lZ1, lZ4, lZ6, lZ0, lZ2, lZ5, lZ83, lZ34, lZ27, I.at, atL, atO, atP, lZ20, lZ18, lZ97, lZ98, evp, evs, lZ10, ↓reduceIte, Nat.reduceEqDiff, reduceCtorEq, Value.bool.injEq, Bool.false_eq_true, Bool.true_eq_false, lZ8, lZ7, lZ68, lZ43, lZ91, lZ81, lZ93, lZ82, lZ96, lZ46, lZ21, lZ67, lZ64, lZ49, lZ52, lZ59, lZ66, lZ95, lZ56, lZ76, lZ57, lZ61, lZ79, lZ50, lZ42, lZ84, lZ55, lZ33, lZ75, lZ77, lZ73, lZ36, bff, btf, Option.isNone_some, Option.isNone_none, lZ9, lZ16, lZ3, retV, lZ44, lZ30, lZ25, lZ23, lZ14, List.getD_cons_zero, List.getD_cons_succ, w_add, w_addl, w_sub, w_subl, w_mull, w_mulr, decide_eq_true, decide_eq_false, addr_add0, Nat.add_zero, Nat.zero_add, toI_int, ov.Elen, lv]
    refine E_call0 ((culletlaw04_high_spec w19 P (Q.map em16) hP (by omega)).mono ?_)
    rintro _ w20 ⟨rfl, rfl⟩
    rw [tln_em16, show ((tln Q : Int) - 1) = ((tln Q - 1 : Nat) : Int) by omega]
    have zd : Fw.sees Try.prog (.ld (.c (.pointer (some ⟨bo, 5, none⟩)))) w20 (.int .i64 (D : Int)) = True := hro.sees (o := 5) (by simp) Try.prog
    simp (maxSteps := 1000000) (disch := omega) only [lZ38, lZ28, lZ15, lZ29, lZ17, lZ72, lZ11, lZ24, lZ19, lZ92, List.mem_cons, List.not_mem_nil, or_self, List.getElem_cons_zero, List.getElem_cons_succ, or_false, false_or, false_implies, implies_true, forall_const, lZ60, lZ41, lZ78, lZ71, lZ86, lZ94, lZ99, lZ87, lZ13, lZ88, lZ65, lZ74, lZ45, lZ89, lZ58, lZ85, lZ69, lZ54, lZ62, lZ90, lZ47, lZ70, lZ31, lZ63, lZ80, lZ35, lZ48, lZ53, lZ51, List.getElem_cons_zero, List.getElem_cons_succ, and_true, true_and, decide_true, decide_false, Bool.not_true, Bool.not_false, lZ40, lZ37, lZ32, lZ12, lZ26, lZ39, lZ22, lZ1, lZ4, lZ6, lZ0, lZ2, lZ5, lZ83, lZ34, lZ27, I.at, atL, atO, atP, lZ20, lZ18, lZ97, lZ98, evp, evs, lZ10, ↓reduceIte, Nat.reduceEqDiff, reduceCtorEq, Value.bool.injEq, Bool.false_eq_true, Bool.true_eq_false, lZ8, lZ7, lZ68, lZ43, lZ91, lZ81, lZ93, lZ82, lZ96, lZ46, lZ21, lZ67, lZ64, lZ49, lZ52, lZ59, lZ66, lZ95, lZ56, lZ76, lZ57, lZ61, lZ79, lZ50, lZ42, lZ84, lZ55, lZ33, lZ75, lZ77, lZ73, lZ36, bff, btf, Option.isNone_some, Option.isNone_none, lZ9, lZ16, lZ3, retV, lZ44, lZ30, lZ25, lZ23, lZ14, List.getD_cons_zero, List.getD_cons_succ, w_add, w_addl, w_sub, w_subl, w_mull, w_mulr, decide_eq_true, decide_eq_false, addr_add0, Nat.add_zero, Nat.zero_add, toI_int, hro.Eld (show 5 < _ by simp), zd]
    simp (maxSteps := 1000000) (disch := omega) only [lZ38, lZ28, lZ15, lZ29, lZ17, lZ72, lZ11, lZ24, lZ19, lZ92, List.mem_cons, List.not_mem_nil, or_self, List.getElem_cons_zero, List.getElem_cons_succ, or_false, false_or, false_implies, implies_true, forall_const, lZ60, lZ41, lZ78, lZ71, lZ86, lZ94, lZ99, lZ87, lZ13, lZ88, lZ65, lZ74, lZ45, lZ89, lZ58, lZ85, lZ69, lZ54, lZ62, lZ90, lZ47, lZ70, lZ31, lZ63, lZ80, lZ35, lZ48, lZ53, lZ51, List.getElem_cons_zero, List.getElem_cons_succ, and_true, true_and, decide_true, decide_false, Bool.not_true, Bool.not_false, lZ40, lZ37, lZ32, lZ12, lZ26, lZ39, lZ22, lZ1, lZ4, lZ6, lZ0, lZ2, lZ5, lZ83, lZ34, lZ27, I.at, atL, atO, atP, lZ20, lZ18, lZ97, lZ98, evp, evs, lZ10, ↓reduceIte, Nat.reduceEqDiff, reduceCtorEq, Value.bool.injEq, Bool.false_eq_true, Bool.true_eq_false, lZ8, lZ7, lZ68, lZ43, lZ91, lZ81, lZ93, lZ82, lZ96, lZ46, lZ21, lZ67, lZ64, lZ49, lZ52, lZ59, lZ66, lZ95, lZ56, lZ76, lZ57, lZ61, lZ79, lZ50, lZ42, lZ84, lZ55, lZ33, lZ75, lZ77, lZ73, lZ36, bff, btf, Option.isNone_some, Option.isNone_none, lZ9, lZ16, lZ3, retV, lZ44, lZ30, lZ25, lZ23, lZ14, List.getD_cons_zero, List.getD_cons_succ, w_add, w_addl, w_sub, w_subl, w_mull, w_mulr, decide_eq_true, decide_eq_false, addr_add0, Nat.add_zero, Nat.zero_add, toI_int, hr.Xldn (n := 2) rfl, hro.Xld (show 1 < _ by simp)]
  rotate_left
  focus
    simp (maxSteps := 1000000) (disch := omega) only [lZ38, lZ28, lZ15, lZ29, lZ17, lZ72, lZ11, lZ24, lZ19, lZ92, List.mem_cons, List.not_mem_nil, or_self, List.getElem_cons_zero, List.getElem_cons_succ, or_false, false_or, false_implies, implies_true, forall_const, lZ60, lZ41, lZ78, lZ71, lZ86, lZ94, lZ99, lZ87, lZ13, lZ88, lZ65, lZ74, lZ45, lZ89, lZ58, lZ85, lZ69, lZ54, lZ62, lZ90, lZ47, lZ70, lZ31, lZ63, lZ80, lZ35, lZ48, lZ53, lZ51, List.getElem_cons_zero, List.getElem_cons_succ, and_true, true_and, decide_true, decide_false, Bool.not_true, Bool.not_false, lZ40, lZ37, lZ32, lZ12, lZ26, lZ39, lZ22, lZ1, lZ4, lZ6, lZ0, lZ2, lZ5, lZ83, lZ34, lZ27, I.at, atL, atO, atP, lZ20, lZ18, lZ97, lZ98, evp, evs, lZ10, ↓reduceIte, Nat.reduceEqDiff, reduceCtorEq, Value.bool.injEq, Bool.false_eq_true, Bool.true_eq_false, lZ8, lZ7, lZ68, lZ43, lZ91, lZ81, lZ93, lZ82, lZ96, lZ46, lZ21, lZ67, lZ64, lZ49, lZ52, lZ59, lZ66, lZ95, lZ56, lZ76, lZ57, lZ61, lZ79, lZ50, lZ42, lZ84, lZ55, lZ33, lZ75, lZ77, lZ73, lZ36, bff, btf, Option.isNone_some, Option.isNone_none, lZ9, lZ16, lZ3, retV, lZ44, lZ30, lZ25, lZ23, lZ14, List.getD_cons_zero, List.getD_cons_succ, w_add, w_addl, w_sub, w_subl, w_mull, w_mulr, decide_eq_true, decide_eq_false, addr_add0, Nat.add_zero, Nat.zero_add, toI_int]
    simp (maxSteps := 1000000) (disch := omega) only [lZ38, lZ28, lZ15, lZ29, lZ17, lZ72, lZ11, lZ24, lZ19, lZ92, List.mem_cons, List.not_mem_nil, or_self, List.getElem_cons_zero, List.getElem_cons_succ, or_false, false_or, false_implies, implies_true, forall_const, lZ60, lZ41, lZ78, lZ71, lZ86, lZ94, lZ99, lZ87, lZ13, lZ88, lZ65, lZ74, lZ45, lZ89, lZ58, lZ85, lZ69, lZ54, lZ62, lZ90, lZ47, lZ70, lZ31, lZ63, lZ80, lZ35, lZ48, lZ53, lZ51, List.getElem_cons_zero, List.getElem_cons_succ, and_true, true_and, decide_true, decide_false, Bool.not_true, Bool.not_false, lZ40, lZ37, lZ32, lZ12, lZ26, lZ39, lZ22, lZ1, lZ4, lZ6, lZ0, lZ2, lZ5, lZ83, lZ34, lZ27, I.at, atL, atO, atP, lZ20, lZ18, lZ97, lZ98, evp, evs, lZ10, ↓reduceIte, Nat.reduceEqDiff, reduceCtorEq, Value.bool.injEq, Bool.false_eq_true, Bool.true_eq_false, lZ8, lZ7, lZ68, lZ43, lZ91, lZ81, lZ93, lZ82, lZ96, lZ46, lZ21, lZ67, lZ64, lZ49, lZ52, lZ59, lZ66, lZ95, lZ56, lZ76, lZ57, lZ61, lZ79, lZ50, lZ42, lZ84, lZ55, lZ33, lZ75, lZ77, lZ73, lZ36, bff, btf, Option.isNone_some, Option.isNone_none, lZ9, lZ16, lZ3, retV, lZ44, lZ30, lZ25, lZ23, lZ14, List.getD_cons_zero, List.getD_cons_succ, w_add, w_addl, w_sub, w_subl, w_mull, w_mulr, decide_eq_true, decide_eq_false, addr_add0, Nat.add_zero, Nat.zero_add, toI_int, hr.Xldn (n := 2) rfl, hro.Xld (show 1 < _ by simp)]
  all_goals
    refine X_call0 ((culletlaw04_Rings_gcd_w_spec _ rb rw P P2 _ _ hb hw hP hP2 (by omega) (by omega)).mono ?_)
    rw [lo16_map_em16, lo16_map_em16]
    rintro _ w21 ⟨hB, ⟨-, -, sg, g, rfl, og, tg, hd1, hd2, -, htop, lg⟩ | ⟨hn, -⟩⟩
    rotate_left
    · exact absurd ⟨by omega, by omega⟩ hn
    have og := og.sl
    have hro := hro.up hB
    have hb := hb.up hB
    have hw := hw.up hB
    have hr := hr.up hB
    have om := om.up hB
    have ov := ov.up hB
    have B := B.trans (hB.mono B.size)
    clear hB
    have lg' : (g.map em16).length = g.length := List.length_map _
    have hg0 : g ≠ [] := by
      rintro rfl
      obtain ⟨q, -, hq⟩ := hd1
      have h0 : tln Q = 0 := tln_of (k := 0) (by rw [hq, co_nil, Ps.mul_zero]; intro i _; rfl) (Or.inl rfl)
      omega
    have hg1 : 0 < g.length := List.length_pos_iff.2 hg0
    have hgt : tln g = g.length := (len_tr tg).symm
    simp (maxSteps := 1000000) (disch := omega) only [List.getElem_cons_zero, List.getElem_cons_succ, and_true, true_and, decide_true, decide_false, Bool.not_true, Bool.not_false, lZ40, lZ37, lZ32, lZ12, lZ26, lZ39, lZ22, lZ1, lZ4, lZ6, lZ0, lZ2, lZ5, lZ83, lZ34, lZ27, I.at, atL, atO, atP, lZ20, lZ18, lZ97, lZ98, evp, evs, lZ10, ↓reduceIte, Nat.reduceEqDiff, reduceCtorEq, Value.bool.injEq, Bool.false_eq_true, Bool.true_eq_false, lZ8, lZ7, lZ68, lZ43, lZ91, lZ81, lZ93, lZ82, lZ96, lZ46, lZ21, lZ67, lZ64, lZ49, lZ52, lZ59, lZ66, lZ95, lZ56, lZ76, lZ57, lZ61, lZ79, lZ50, lZ42, lZ84, lZ55, lZ33, lZ75, lZ77, lZ73, lZ36, bff, btf, Option.isNone_some, Option.isNone_none, lZ9, lZ16, lZ3, retV, lZ44, lZ30, lZ25, lZ23, lZ14, List.getD_cons_zero, List.getD_cons_succ, w_add, w_addl, w_sub, w_subl, w_mull, w_mulr, decide_eq_true, decide_eq_false, addr_add0, Nat.add_zero, Nat.zero_add, toI_int, og.Xlen, lg']
    simp (maxSteps := 1000000) (disch := omega) only [List.getElem_cons_zero, List.getElem_cons_succ, and_true, true_and, decide_true, decide_false, Bool.not_true, Bool.not_false, lZ40, lZ37, lZ32, lZ12, lZ26, lZ39, lZ22, lZ1, lZ4, lZ6, lZ0, lZ2, lZ5, lZ83, lZ34, lZ27, I.at, atL, atO, atP, lZ20, lZ18, lZ97, lZ98, evp, evs, lZ10, ↓reduceIte, Nat.reduceEqDiff, reduceCtorEq, Value.bool.injEq, Bool.false_eq_true, Bool.true_eq_false, lZ8, lZ7, lZ68, lZ43, lZ91, lZ81, lZ93, lZ82, lZ96, lZ46, lZ21, lZ67, lZ64, lZ49, lZ52, lZ59, lZ66, lZ95, lZ56, lZ76, lZ57, lZ61, lZ79, lZ50, lZ42, lZ84, lZ55, lZ33, lZ75, lZ77, lZ73, lZ36, bff, btf, Option.isNone_some, Option.isNone_none, lZ9, lZ16, lZ3, retV, lZ44, lZ30, lZ25, lZ23, lZ14, List.getD_cons_zero, List.getD_cons_succ, w_add, w_addl, w_sub, w_subl, w_mull, w_mulr, decide_eq_true, decide_eq_false, addr_add0, Nat.add_zero, Nat.zero_add, toI_int, hr.Xldn (n := 2) rfl, hro.Xld (show 1 < _ by simp)]
    refine X_call0 ((culletlaw04_Rings_divMod_w_spec _ rb rw sm sg _ _ hb hw om og (by omega) (by omega)).mono ?_)
    rw [lo16_map_em16, lo16_map_em16]
    rintro _ w22 ⟨hB, ⟨-, -, hz, sq, sr, q, r, rfl, oq, or, tq, tr', hco, hrl, hql⟩ | ⟨-, -, h0, -⟩ | ⟨hn, -⟩⟩
    rotate_left
    · exact absurd h0 (by omega)
    · exact absurd ⟨by omega, by omega⟩ hn
    have or := or.sl
    have B := B.trans (hB.mono B.size)
    clear hB
    obtain rfl : r = [] := by
      obtain ⟨c, ⟨c', hc'⟩, he⟩ := (hp.eq ▸ (hd1.mul (Pol.of u)).add (hd2.mul (Pol.of v')) : Dv (co g) (co m))
      have hq2 : co (tr c') = c := by rw [tr_co, hc']
      exact (div_uniq (a := m) (b := g) tq tr' (tr_tr c') tr_nil hco (by rw [hq2, co_nil, Ps.add_zero]; exact he) hrl (by simp; omega)).2
    simp (maxSteps := 1000000) (disch := omega) only [List.getElem_cons_zero, List.getElem_cons_succ, and_true, true_and, decide_true, decide_false, Bool.not_true, Bool.not_false, lZ40, lZ37, lZ32, lZ12, lZ26, lZ39, lZ22, lZ1, lZ4, lZ6, lZ0, lZ2, lZ5, lZ83, lZ34, lZ27, I.at, atL, atO, atP, lZ20, lZ18, lZ97, lZ98, evp, evs, lZ10, ↓reduceIte, Nat.reduceEqDiff, reduceCtorEq, Value.bool.injEq, Bool.false_eq_true, Bool.true_eq_false, lZ8, lZ7, lZ68, lZ43, lZ91, lZ81, lZ93, lZ82, lZ96, lZ46, lZ21, lZ67, lZ64, lZ49, lZ52, lZ59, lZ66, lZ95, lZ56, lZ76, lZ57, lZ61, lZ79, lZ50, lZ42, lZ84, lZ55, lZ33, lZ75, lZ77, lZ73, lZ36, bff, btf, Option.isNone_some, Option.isNone_none, lZ9, lZ16, lZ3, retV, lZ44, lZ30, lZ25, lZ23, lZ14, List.getD_cons_zero, List.getD_cons_succ, w_add, w_addl, w_sub, w_subl, w_mull, w_mulr, decide_eq_true, decide_eq_false, addr_add0, Nat.add_zero, Nat.zero_add, toI_int, or.Xlen, List.map_nil, List.length_nil, show decide (((0 : Nat) : Int) = 0) = true from rfl]
    exact B
end Go.Proofs.Ytcdagkcchfibjaa.Fw

namespace Go.Proofs.Ytcdagkcchfibjaa.Fw
open Go Go.Fw
theorem culletlaw04_PolysEuclid_b_spec (w : World) (k n : Int) (F G : Value) (LF LG : List (El 16)) (X : El 16) (hF : Sl w F LF) (hG : Sl w G LG) (hlF : LF.length ≤ 70368744175616) (hlG : LG.length ≤ 70368744175616) :
    CallV Try.prog 9 [.agg #[.int .i64 k, .bool false, F, G, .int .u16 (X.v.toNat : Int), .int .i64 n]] w fun v w' => v = .bool true ∧ RowKit.Below w.heap.size w w' := by
  refine run_culletlaw04_PolysEuclid (by simp) ?_
  simp only [c_culletlaw04_PolysEuclid, List.getElem_cons_zero, List.getElem_cons_succ, and_true, true_and, decide_true, decide_false, Bool.not_true, Bool.not_false, lZ40, lZ37, lZ32, lZ12, lZ26, lZ39, lZ22, lZ1, lZ4, lZ6, lZ0, lZ2, lZ5, lZ83, lZ34, lZ27, I.at, atL, atO, atP, lZ20, lZ18, lZ97, lZ98, evp, evs, lZ10, ↓reduceIte, Nat.reduceEqDiff, reduceCtorEq, Value.bool.injEq, Bool.false_eq_true, Bool.true_eq_false, lZ8, lZ7, lZ68, lZ43, lZ91, lZ81, lZ93, lZ82, lZ96, lZ46, lZ21, lZ67, lZ64, lZ49, lZ52, lZ59, lZ66, lZ95, lZ56, lZ76, lZ57, lZ61, lZ79, lZ50, lZ42, lZ84, lZ55, lZ33, lZ75, lZ77, lZ73, lZ36, bff, btf, Option.isNone_some, Option.isNone_none, lZ9, lZ16, lZ3, retV, lZ44, lZ30, lZ25, lZ23, lZ14, List.getD_cons_zero, List.getD_cons_succ]
  refine X_box fun bo w1 hro hbo hB => ?_
  have hro : Row w1 bo [.int .i64 k, .bool false, F, G, .int .u16 (X.v.toNat : Int), .int .i64 n] := hro
  have B := hB
  have hF := hF.up hB
  have hG := hG.up hB
  simp (maxSteps := 1000000) (disch := omega) only [List.getElem_cons_zero, List.getElem_cons_succ, and_true, true_and, decide_true, decide_false, Bool.not_true, Bool.not_false, lZ40, lZ37, lZ32, lZ12, lZ26, lZ39, lZ22, lZ1, lZ4, lZ6, lZ0, lZ2, lZ5, lZ83, lZ34, lZ27, I.at, atL, atO, atP, lZ20, lZ18, lZ97, lZ98, evp, evs, lZ10, ↓reduceIte, Nat.reduceEqDiff, reduceCtorEq, Value.bool.injEq, Bool.false_eq_true, Bool.true_eq_false, lZ8, lZ7, lZ68, lZ43, lZ91, lZ81, lZ93, lZ82, lZ96, lZ46, lZ21, lZ67, lZ64, lZ49, lZ52, lZ59, lZ66, lZ95, lZ56, lZ76, lZ57, lZ61, lZ79, lZ50, lZ42, lZ84, lZ55, lZ33, lZ75, lZ77, lZ73, lZ36, bff, btf, Option.isNone_some, Option.isNone_none, lZ9, lZ16, lZ3, retV, lZ44, lZ30, lZ25, lZ23, lZ14, List.getD_cons_zero, List.getD_cons_succ, w_add, w_addl, w_sub, w_subl, w_mull, w_mulr, decide_eq_true, decide_eq_false, addr_add0, Nat.add_zero, Nat.zero_add, toI_int]
  refine X_call0 ((culletlaw04_both_spec w1).mono ?_)
  rintro _ w2 ⟨rb, rw, rfl, hb, hw, hB⟩
  have hF := hF.up hB
  have hG := hG.up hB
  have hro := hro.up hB
  have B := B.trans (hB.mono B.size)
  clear hB
  simp (maxSteps := 1000000) (disch := omega) only [List.getElem_cons_zero, List.getElem_cons_succ, and_true, true_and, decide_true, decide_false, Bool.not_true, Bool.not_false, lZ40, lZ37, lZ32, lZ12, lZ26, lZ39, lZ22, lZ1, lZ4, lZ6, lZ0, lZ2, lZ5, lZ83, lZ34, lZ27, I.at, atL, atO, atP, lZ20, lZ18, lZ97, lZ98, evp, evs, lZ10, ↓reduceIte, Nat.reduceEqDiff, reduceCtorEq, Value.bool.injEq, Bool.false_eq_true, Bool.true_eq_false, lZ8, lZ7, lZ68, lZ43, lZ91, lZ81, lZ93, lZ82, lZ96, lZ46, lZ21, lZ67, lZ64, lZ49, lZ52, lZ59, lZ66, lZ95, lZ56, lZ76, lZ57, lZ61, lZ79, lZ50, lZ42, lZ84, lZ55, lZ33, lZ75, lZ77, lZ73, lZ36, bff, btf, Option.isNone_some, Option.isNone_none, lZ9, lZ16, lZ3, retV, lZ44, lZ30, lZ25, lZ23, lZ14, List.getD_cons_zero, List.getD_cons_succ, w_add, w_addl, w_sub, w_subl, w_mull, w_mulr, decide_eq_true, decide_eq_false, addr_add0, Nat.add_zero, Nat.zero_add, toI_int]
  refine X_alloc fun b3 w0 hr3 hb3 hB => ?_
  have s8 : scal rb = true := by obtain ⟨_, _, _, rfl, _⟩ := hb; rfl
  have s16 : scal rw = true := by obtain ⟨_, _, _, rfl, _⟩ := hw; rfl
  simp (maxSteps := 1000000) (disch := omega) only [List.getElem_cons_zero, List.getElem_cons_succ, and_true, true_and, decide_true, decide_false, Bool.not_true, Bool.not_false, lZ40, lZ37, lZ32, lZ12, lZ26, lZ39, lZ22, lZ1, lZ4, lZ6, lZ0, lZ2, lZ5, lZ83, lZ34, lZ27, I.at, atL, atO, atP, lZ20, lZ18, lZ97, lZ98, evp, evs, lZ10, ↓reduceIte, Nat.reduceEqDiff, reduceCtorEq, Value.bool.injEq, Bool.false_eq_true, Bool.true_eq_false, lZ8, lZ7, lZ68, lZ43, lZ91, lZ81, lZ93, lZ82, lZ96, lZ46, lZ21, lZ67, lZ64, lZ49, lZ52, lZ59, lZ66, lZ95, lZ56, lZ76, lZ57, lZ61, lZ79, lZ50, lZ42, lZ84, lZ55, lZ33, lZ75, lZ77, lZ73, lZ36, bff, btf, Option.isNone_some, Option.isNone_none, lZ9, lZ16, lZ3, retV, lZ44, lZ30, lZ25, lZ23, lZ14, List.getD_cons_zero, List.getD_cons_succ, w_add, w_addl, w_sub, w_subl, w_mull, w_mulr, decide_eq_true, decide_eq_false, addr_add0, Nat.add_zero, Nat.zero_add, toI_int]
  refine Row.Xstn (vs := [rb, rw]) hr3 rfl (by simp [s8, s16]) (by simp) fun w3 hr hg => ?_
  have hB := Below.row hB hb3 hg
  clear hg hr3 hb3
  have hF := hF.up hB
  have hG := hG.up hB
  have hro := hro.up hB
  have hb := hb.up hB
  have hw := hw.up hB
  have B := B.trans (hB.mono B.size)
  clear hB
  simp (maxSteps := 1000000) (disch := omega) only [List.getElem_cons_zero, List.getElem_cons_succ, and_true, true_and, decide_true, decide_false, Bool.not_true, Bool.not_false, lZ40, lZ37, lZ32, lZ12, lZ26, lZ39, lZ22, lZ1, lZ4, lZ6, lZ0, lZ2, lZ5, lZ83, lZ34, lZ27, I.at, atL, atO, atP, lZ20, lZ18, lZ97, lZ98, evp, evs, lZ10, ↓reduceIte, Nat.reduceEqDiff, reduceCtorEq, Value.bool.injEq, Bool.false_eq_true, Bool.true_eq_false, lZ8, lZ7, lZ68, lZ43, lZ91, lZ81, lZ93, lZ82, lZ96, lZ46, lZ21, lZ67, lZ64, lZ49, lZ52, lZ59, lZ66, lZ95, lZ56, lZ76, lZ57, lZ61, lZ79, lZ50, lZ42, lZ84, lZ55, lZ33, lZ75, lZ77, lZ73, lZ36, bff, btf, Option.isNone_some, Option.isNone_none, lZ9, lZ16, lZ3, retV, lZ44, lZ30, lZ25, lZ23, lZ14, List.getD_cons_zero, List.getD_cons_succ, w_add, w_addl, w_sub, w_subl, w_mull, w_mulr, decide_eq_true, decide_eq_false, addr_add0, Nat.add_zero, Nat.zero_add, toI_int, hr.Xldn (n := 2) rfl]
  refine X_bsl (zs := [(⟨0⟩ : El 16), ⟨0⟩, ⟨1⟩]) (by rfl) (by rfl) fun c1 w4 hc1 hB => ?_
  have hF := hF.up hB
  have hG := hG.up hB
  have hro := hro.up hB
  have hb := hb.up hB
  have hw := hw.up hB
  have hr := hr.up hB
  have B := B.trans (hB.mono B.size)
  clear hB
  simp (maxSteps := 1000000) (disch := omega) only [List.getElem_cons_zero, List.getElem_cons_succ, and_true, true_and, decide_true, decide_false, Bool.not_true, Bool.not_false, lZ40, lZ37, lZ32, lZ12, lZ26, lZ39, lZ22, lZ1, lZ4, lZ6, lZ0, lZ2, lZ5, lZ83, lZ34, lZ27, I.at, atL, atO, atP, lZ20, lZ18, lZ97, lZ98, evp, evs, lZ10, ↓reduceIte, Nat.reduceEqDiff, reduceCtorEq, Value.bool.injEq, Bool.false_eq_true, Bool.true_eq_false, lZ8, lZ7, lZ68, lZ43, lZ91, lZ81, lZ93, lZ82, lZ96, lZ46, lZ21, lZ67, lZ64, lZ49, lZ52, lZ59, lZ66, lZ95, lZ56, lZ76, lZ57, lZ61, lZ79, lZ50, lZ42, lZ84, lZ55, lZ33, lZ75, lZ77, lZ73, lZ36, bff, btf, Option.isNone_some, Option.isNone_none, lZ9, lZ16, lZ3, retV, lZ44, lZ30, lZ25, lZ23, lZ14, List.getD_cons_zero, List.getD_cons_succ, w_add, w_addl, w_sub, w_subl, w_mull, w_mulr, decide_eq_true, decide_eq_false, addr_add0, Nat.add_zero, Nat.zero_add, toI_int]
  refine X_bsl (zs := [(⟨1⟩ : El 16), ⟨1⟩]) (by rfl) (by rfl) fun c2 w5 hc2 hB => ?_
  have hF := hF.up hB
  have hG := hG.up hB
  have hro := hro.up hB
  have hb := hb.up hB
  have hw := hw.up hB
  have hr := hr.up hB
  have hc1 := hc1.up hB
  have B := B.trans (hB.mono B.size)
  clear hB
  simp (maxSteps := 1000000) (disch := omega) only [List.getElem_cons_zero, List.getElem_cons_succ, and_true, true_and, decide_true, decide_false, Bool.not_true, Bool.not_false, lZ40, lZ37, lZ32, lZ12, lZ26, lZ39, lZ22, lZ1, lZ4, lZ6, lZ0, lZ2, lZ5, lZ83, lZ34, lZ27, I.at, atL, atO, atP, lZ20, lZ18, lZ97, lZ98, evp, evs, lZ10, ↓reduceIte, Nat.reduceEqDiff, reduceCtorEq, Value.bool.injEq, Bool.false_eq_true, Bool.true_eq_false, lZ8, lZ7, lZ68, lZ43, lZ91, lZ81, lZ93, lZ82, lZ96, lZ46, lZ21, lZ67, lZ64, lZ49, lZ52, lZ59, lZ66, lZ95, lZ56, lZ76, lZ57, lZ61, lZ79, lZ50, lZ42, lZ84, lZ55, lZ33, lZ75, lZ77, lZ73, lZ36, bff, btf, Option.isNone_some, Option.isNone_none, lZ9, lZ16, lZ3, retV, lZ44, lZ30, lZ25, lZ23, lZ14, List.getD_cons_zero, List.getD_cons_succ, w_add, w_addl, w_sub, w_subl, w_mull, w_mulr, decide_eq_true, decide_eq_false, addr_add0, Nat.add_zero, Nat.zero_add, toI_int, hr.Xldn (n := 2) rfl]
  refine X_call0 ((culletlaw04_Rings_partial_b_spec w5 rb rw c1 c2 _ _ 1 hb hw hc1.sl hc2.sl (by simp) (by simp)).mono ?_)
  rintro _ w6 ⟨hB, ⟨-, -, -, sm, su, sv, m, u, v', rfl, om, ou, ov, hE⟩ | ⟨-, -, h0, -⟩ | ⟨hn, -⟩⟩
  rotate_left
  · exact absurd h0 (by omega)
  · exact absurd ⟨by simp, by simp⟩ hn
  obtain ⟨rfl, rfl, rfl⟩ := hE.det (tr_tr _) eu_first
  have om := om.sl
  have ou := ou.sl
  have ov := ov.sl
  have hF := hF.up hB
  have hG := hG.up hB
  have hro := hro.up hB
  have hb := hb.up hB
  have hw := hw.up hB
  have hr := hr.up hB
  have B := B.trans (hB.mono B.size)
  clear hB
  clear hc1 hc2 hE
  simp (maxSteps := 1000000) (disch := omega) only [List.getElem_cons_zero, List.getElem_cons_succ, and_true, true_and, decide_true, decide_false, Bool.not_true, Bool.not_false, lZ40, lZ37, lZ32, lZ12, lZ26, lZ39, lZ22, lZ1, lZ4, lZ6, lZ0, lZ2, lZ5, lZ83, lZ34, lZ27, I.at, atL, atO, atP, lZ20, lZ18, lZ97, lZ98, evp, evs, lZ10, ↓reduceIte, Nat.reduceEqDiff, reduceCtorEq, Value.bool.injEq, Bool.false_eq_true, Bool.true_eq_false, lZ8, lZ7, lZ68, lZ43, lZ91, lZ81, lZ93, lZ82, lZ96, lZ46, lZ21, lZ67, lZ64, lZ49, lZ52, lZ59, lZ66, lZ95, lZ56, lZ76, lZ57, lZ61, lZ79, lZ50, lZ42, lZ84, lZ55, lZ33, lZ75, lZ77, lZ73, lZ36, bff, btf, Option.isNone_some, Option.isNone_none, lZ9, lZ16, lZ3, retV, lZ44, lZ30, lZ25, lZ23, lZ14, List.getD_cons_zero, List.getD_cons_succ, w_add, w_addl, w_sub, w_subl, w_mull, w_mulr, decide_eq_true, decide_eq_false, addr_add0, Nat.add_zero, Nat.zero_add, toI_int]
  refine X_bsl (zs := [(⟨1⟩ : El 16)]) (by rfl) (by rfl) fun c1 w7 hc1 hB => ?_
  have hF := hF.up hB
  have hG := hG.up hB
  have hro := hro.up hB
  have hb := hb.up hB
  have hw := hw.up hB
  have hr := hr.up hB
  have om := om.up hB
  have ou := ou.up hB
  have ov := ov.up hB
  have B := B.trans (hB.mono B.size)
  clear hB
  simp (maxSteps := 1000000) (disch := omega) only [List.getElem_cons_zero, List.getElem_cons_succ, and_true, true_and, decide_true, decide_false, Bool.not_true, Bool.not_false, lZ40, lZ37, lZ32, lZ12, lZ26, lZ39, lZ22, lZ1, lZ4, lZ6, lZ0, lZ2, lZ5, lZ83, lZ34, lZ27, I.at, atL, atO, atP, lZ20, lZ18, lZ97, lZ98, evp, evs, lZ10, ↓reduceIte, Nat.reduceEqDiff, reduceCtorEq, Value.bool.injEq, Bool.false_eq_true, Bool.true_eq_false, lZ8, lZ7, lZ68, lZ43, lZ91, lZ81, lZ93, lZ82, lZ96, lZ46, lZ21, lZ67, lZ64, lZ49, lZ52, lZ59, lZ66, lZ95, lZ56, lZ76, lZ57, lZ61, lZ79, lZ50, lZ42, lZ84, lZ55, lZ33, lZ75, lZ77, lZ73, lZ36, bff, btf, Option.isNone_some, Option.isNone_none, lZ9, lZ16, lZ3, retV, lZ44, lZ30, lZ25, lZ23, lZ14, List.getD_cons_zero, List.getD_cons_succ, w_add, w_addl, w_sub, w_subl, w_mull, w_mulr, decide_eq_true, decide_eq_false, addr_add0, Nat.add_zero, Nat.zero_add, toI_int]
  refine X_call0 ((culletlaw04_same_spec w7 sm c1 _ _ om hc1.sl (by simp) (by simp)).mono ?_)
  rintro _ w8 ⟨rfl, hk⟩
  have hB := hk.1
  have hF := hF.up hB
  have hG := hG.up hB
  have hro := hro.up hB
  have hb := hb.up hB
  have hw := hw.up hB
  have hr := hr.up hB
  have ou := ou.up hB
  have ov := ov.up hB
  have B := B.trans (hB.mono B.size)
  clear hB
  clear hk hc1 om
  simp (maxSteps := 1000000) (disch := omega) only [List.getElem_cons_zero, List.getElem_cons_succ, and_true, true_and, decide_true, decide_false, Bool.not_true, Bool.not_false, lZ40, lZ37, lZ32, lZ12, lZ26, lZ39, lZ22, lZ1, lZ4, lZ6, lZ0, lZ2, lZ5, lZ83, lZ34, lZ27, I.at, atL, atO, atP, lZ20, lZ18, lZ97, lZ98, evp, evs, lZ10, ↓reduceIte, Nat.reduceEqDiff, reduceCtorEq, Value.bool.injEq, Bool.false_eq_true, Bool.true_eq_false, lZ8, lZ7, lZ68, lZ43, lZ91, lZ81, lZ93, lZ82, lZ96, lZ46, lZ21, lZ67, lZ64, lZ49, lZ52, lZ59, lZ66, lZ95, lZ56, lZ76, lZ57, lZ61, lZ79, lZ50, lZ42, lZ84, lZ55, lZ33, lZ75, lZ77, lZ73, lZ36, bff, btf, Option.isNone_some, Option.isNone_none, lZ9, lZ16, lZ3, retV, lZ44, lZ30, lZ25, lZ23, lZ14, List.getD_cons_zero, List.getD_cons_succ, w_add, w_addl, w_sub, w_subl, w_mull, w_mulr, decide_eq_true, decide_eq_false, addr_add0, Nat.add_zero, Nat.zero_add, toI_int, show decide (List.map em8 [(1 : El 8)] = [(⟨1⟩ : El 16)]) = true from rfl]
  refine X_bsl (zs := [(⟨1⟩ : El 16)]) (by rfl) (by rfl) fun c1 w7 hc1 hB => ?_
  have hF := hF.up hB
  have hG := hG.up hB
  have hro := hro.up hB
  have hb := hb.up hB
  have hw := hw.up hB
  have hr := hr.up hB
  have ou := ou.up hB
  have ov := ov.up hB
  have B := B.trans (hB.mono B.size)
  clear hB
  simp (maxSteps := 1000000) (disch := omega) only [List.getElem_cons_zero, List.getElem_cons_succ, and_true, true_and, decide_true, decide_false, Bool.not_true, Bool.not_false, lZ40, lZ37, lZ32, lZ12, lZ26, lZ39, lZ22, lZ1, lZ4, lZ6, lZ0, lZ2, lZ5, lZ83, lZ34, lZ27, I.at, atL, atO, atP, lZ20, lZ18, lZ97, lZ98, evp, evs, lZ10, ↓reduceIte, Nat.reduceEqDiff, reduceCtorEq, Value.bool.injEq, Bool.false_eq_true, Bool.true_eq_false, lZ8, lZ7, lZ68, lZ43, lZ91, lZ81, lZ93, lZ82, lZ96, lZ46, lZ21, lZ67, lZ64, lZ49, lZ52, lZ59, lZ66, lZ95, lZ56, lZ76, lZ57, lZ61, lZ79, lZ50, lZ42, lZ84, lZ55, lZ33, lZ75, lZ77, lZ73, lZ36, bff, btf, Option.isNone_some, Option.isNone_none, lZ9, lZ16, lZ3, retV, lZ44, lZ30, lZ25, lZ23, lZ14, List.getD_cons_zero, List.getD_cons_succ, w_add, w_addl, w_sub, w_subl, w_mull, w_mulr, decide_eq_true, decide_eq_false, addr_add0, Nat.add_zero, Nat.zero_add, toI_int]
  refine X_call0 ((culletlaw04_same_spec w7 su c1 _ _ ou hc1.sl (by simp) (by simp)).mono ?_)
  rintro _ w8 ⟨rfl, hk⟩
  have hB := hk.1
  have hF := hF.up hB
  have hG := hG.up hB
  have hro := hro.up hB
  have hb := hb.up hB
  have hw := hw.up hB
  have hr := hr.up hB
  have ov := ov.up hB
  have B := B.trans (hB.mono B.size)
  clear hB
  clear hk hc1 ou
  simp (maxSteps := 1000000) (disch := omega) only [List.getElem_cons_zero, List.getElem_cons_succ, and_true, true_and, decide_true, decide_false, Bool.not_true, Bool.not_false, lZ40, lZ37, lZ32, lZ12, lZ26, lZ39, lZ22, lZ1, lZ4, lZ6, lZ0, lZ2, lZ5, lZ83, lZ34, lZ27, I.at, atL, atO, atP, lZ20, lZ18, lZ97, lZ98, evp, evs, lZ10, ↓reduceIte, Nat.reduceEqDiff, reduceCtorEq, Value.bool.injEq, Bool.false_eq_true, Bool.true_eq_false, lZ8, lZ7, lZ68, lZ43, lZ91, lZ81, lZ93, lZ82, lZ96, lZ46, lZ21, lZ67, lZ64, lZ49, lZ52, lZ59, lZ66, lZ95, lZ56, lZ76, lZ57, lZ61, lZ79, lZ50, lZ42, lZ84, lZ55, lZ33, lZ75, lZ77, lZ73, lZ36, bff, btf, Option.isNone_some, Option.isNone_none, lZ9, lZ16, lZ3, retV, lZ44, lZ30, lZ25, lZ23, lZ14, List.getD_cons_zero, List.getD_cons_succ, w_add, w_addl, w_sub, w_subl, w_mull, w_mulr, decide_eq_true, decide_eq_false, addr_add0, Nat.add_zero, Nat.zero_add, toI_int, show decide (List.map em8 [(1 : El 8)] = [(⟨1⟩ : El 16)]) = true from rfl]
  refine X_bsl (zs := [(⟨1⟩ : El 16), ⟨1⟩]) (by rfl) (by rfl) fun c1 w7 hc1 hB => ?_
  have hF := hF.up hB
  have hG := hG.up hB
  have hro := hro.up hB
  have hb := hb.up hB
  have hw := hw.up hB
  have hr := hr.up hB
  have ov := ov.up hB
  have B := B.trans (hB.mono B.size)
  clear hB
  simp (maxSteps := 1000000) (disch := omega) only [List.getElem_cons_zero, List.getElem_cons_succ, and_true, true_and, decide_true, decide_false, Bool.not_true, Bool.not_false, lZ40, lZ37, lZ32, lZ12, lZ26, lZ39, lZ22, lZ1, lZ4, lZ6, lZ0, lZ2, lZ5, lZ83, lZ34, lZ27, I.at, atL, atO, atP, lZ20, lZ18, lZ97, lZ98, evp, evs, lZ10, ↓reduceIte, Nat.reduceEqDiff, reduceCtorEq, Value.bool.injEq, Bool.false_eq_true, Bool.true_eq_false, lZ8, lZ7, lZ68, lZ43, lZ91, lZ81, lZ93, lZ82, lZ96, lZ46, lZ21, lZ67, lZ64, lZ49, lZ52, lZ59, lZ66, lZ95, lZ56, lZ76, lZ57, lZ61, lZ79, lZ50, lZ42, lZ84, lZ55, lZ33, lZ75, lZ77, lZ73, lZ36, bff, btf, Option.isNone_some, Option.isNone_none, lZ9, lZ16, lZ3, retV, lZ44, lZ30, lZ25, lZ23, lZ14, List.getD_cons_zero, List.getD_cons_succ, w_add, w_addl, w_sub, w_subl, w_mull, w_mulr, decide_eq_true, decide_eq_false, addr_add0, Nat.add_zero, Nat.zero_add, toI_int]
  refine X_call0 ((culletlaw04_same_spec w7 sv c1 _ _ ov hc1.sl (by simp) (by simp)).mono ?_)
  rintro _ w8 ⟨rfl, hk⟩
  have hB := hk.1
  have hF := hF.up hB
  have hG := hG.up hB
  have hro := hro.up hB
  have hb := hb.up hB
  have hw := hw.up hB
  have hr := hr.up hB
  have B := B.trans (hB.mono B.size)
  clear hB
  clear hk hc1 ov
  simp (maxSteps := 1000000) (disch := omega) only [List.getElem_cons_zero, List.getElem_cons_succ, and_true, true_and, decide_true, decide_false, Bool.not_true, Bool.not_false, lZ40, lZ37, lZ32, lZ12, lZ26, lZ39, lZ22, lZ1, lZ4, lZ6, lZ0, lZ2, lZ5, lZ83, lZ34, lZ27, I.at, atL, atO, atP, lZ20, lZ18, lZ97, lZ98, evp, evs, lZ10, ↓reduceIte, Nat.reduceEqDiff, reduceCtorEq, Value.bool.injEq, Bool.false_eq_true, Bool.true_eq_false, lZ8, lZ7, lZ68, lZ43, lZ91, lZ81, lZ93, lZ82, lZ96, lZ46, lZ21, lZ67, lZ64, lZ49, lZ52, lZ59, lZ66, lZ95, lZ56, lZ76, lZ57, lZ61, lZ79, lZ50, lZ42, lZ84, lZ55, lZ33, lZ75, lZ77, lZ73, lZ36, bff, btf, Option.isNone_some, Option.isNone_none, lZ9, lZ16, lZ3, retV, lZ44, lZ30, lZ25, lZ23, lZ14, List.getD_cons_zero, List.getD_cons_succ, w_add, w_addl, w_sub, w_subl, w_mull, w_mulr, decide_eq_true, decide_eq_false, addr_add0, Nat.add_zero, Nat.zero_add, toI_int, show decide (List.map em8 [(⟨1⟩ : El 8), ⟨1⟩] = [(⟨1⟩ : El 16), ⟨1⟩]) = true from rfl, hro.Xld (show 1 < _ by simp), hro.Xld (show 2 < _ by simp)]
  refine X_call0 ((culletlaw04_cut_b_spec w8 F LF hF hlF).mono ?_)
  rintro P w9 ⟨hP, hB⟩
  have hP := hP.sl
  have hG := hG.up hB
  have hro := hro.up hB
  have hb := hb.up hB
  have hw := hw.up hB
  have hr := hr.up hB
  have B := B.trans (hB.mono B.size)
  clear hB
  clear hF
  generalize hqQ : LF.map lo8 = Q at hP
  have lP : (Q.map em8).length = Q.length := List.length_map _
  have bQ : Q.length ≤ 70368744175616 := by rw [← hqQ, List.length_map]; exact hlF
  clear hqQ
  simp (maxSteps := 1000000) (disch := omega) only [List.getElem_cons_zero, List.getElem_cons_succ, and_true, true_and, decide_true, decide_false, Bool.not_true, Bool.not_false, lZ40, lZ37, lZ32, lZ12, lZ26, lZ39, lZ22, lZ1, lZ4, lZ6, lZ0, lZ2, lZ5, lZ83, lZ34, lZ27, I.at, atL, atO, atP, lZ20, lZ18, lZ97, lZ98, evp, evs, lZ10, ↓reduceIte, Nat.reduceEqDiff, reduceCtorEq, Value.bool.injEq, Bool.false_eq_true, Bool.true_eq_false, lZ8, lZ7, lZ68, lZ43, lZ91, lZ81, lZ93, lZ82, lZ96, lZ46, lZ21, lZ67, lZ64, lZ49, lZ52, lZ59, lZ66, lZ95, lZ56, lZ76, lZ57, lZ61, lZ79, lZ50, lZ42, lZ84, lZ55, lZ33, lZ75, lZ77, lZ73, lZ36, bff, btf, Option.isNone_some, Option.isNone_none, lZ9, lZ16, lZ3, retV, lZ44, lZ30, lZ25, lZ23, lZ14, List.getD_cons_zero, List.getD_cons_succ, w_add, w_addl, w_sub, w_subl, w_mull, w_mulr, decide_eq_true, decide_eq_false, addr_add0, Nat.add_zero, Nat.zero_add, toI_int, hro.Xld (show 1 < _ by simp), hro.Xld (show 3 < _ by simp)]
  refine X_call0 ((culletlaw04_cut_b_spec w9 G LG hG hlG).mono ?_)
  rintro P2 w10 ⟨hP2, hB⟩
  have hP2 := hP2.sl
  have hro := hro.up hB
  have hb := hb.up hB
  have hw := hw.up hB
  have hr := hr.up hB
  have hP := hP.up hB
  have B := B.trans (hB.mono B.size)
  clear hB
  clear hG
  generalize hqQ2 : LG.map lo8 = Q2 at hP2
  have lP2 : (Q2.map em8).length = Q2.length := List.length_map _
  have bQ2 : Q2.length ≤ 70368744175616 := by rw [← hqQ2, List.length_map]; exact hlG
  clear hqQ2
  simp (maxSteps := 1000000) (disch := omega) only [List.getElem_cons_zero, List.getElem_cons_succ, and_true, true_and, decide_true, decide_false, Bool.not_true, Bool.not_false, lZ40, lZ37, lZ32, lZ12, lZ26, lZ39, lZ22, lZ1, lZ4, lZ6, lZ0, lZ2, lZ5, lZ83, lZ34, lZ27, I.at, atL, atO, atP, lZ20, lZ18, lZ97, lZ98, evp, evs, lZ10, ↓reduceIte, Nat.reduceEqDiff, reduceCtorEq, Value.bool.injEq, Bool.false_eq_true, Bool.true_eq_false, lZ8, lZ7, lZ68, lZ43, lZ91, lZ81, lZ93, lZ82, lZ96, lZ46, lZ21, lZ67, lZ64, lZ49, lZ52, lZ59, lZ66, lZ95, lZ56, lZ76, lZ57, lZ61, lZ79, lZ50, lZ42, lZ84, lZ55, lZ33, lZ75, lZ77, lZ73, lZ36, bff, btf, Option.isNone_some, Option.isNone_none, lZ9, lZ16, lZ3, retV, lZ44, lZ30, lZ25, lZ23, lZ14, List.getD_cons_zero, List.getD_cons_succ, w_add, w_addl, w_sub, w_subl, w_mull, w_mulr, decide_eq_true, decide_eq_false, addr_add0, Nat.add_zero, Nat.zero_add, toI_int, hP.Xlen, lP]
  by_cases hbig : 1024 < Q.length
  · simp (maxSteps := 1000000) (disch := omega) only [List.getElem_cons_zero, List.getElem_cons_succ, and_true, true_and, decide_true, decide_false, Bool.not_true, Bool.not_false, lZ40, lZ37, lZ32, lZ12, lZ26, lZ39, lZ22, lZ1, lZ4, lZ6, lZ0, lZ2, lZ5, lZ83, lZ34, lZ27, I.at, atL, atO, atP, lZ20, lZ18, lZ97, lZ98, evp, evs, lZ10, ↓reduceIte, Nat.reduceEqDiff, reduceCtorEq, Value.bool.injEq, Bool.false_eq_true, Bool.true_eq_false, lZ8, lZ7, lZ68, lZ43, lZ91, lZ81, lZ93, lZ82, lZ96, lZ46, lZ21, lZ67, lZ64, lZ49, lZ52, lZ59, lZ66, lZ95, lZ56, lZ76, lZ57, lZ61, lZ79, lZ50, lZ42, lZ84, lZ55, lZ33, lZ75, lZ77, lZ73, lZ36, bff, btf, Option.isNone_some, Option.isNone_none, lZ9, lZ16, lZ3, retV, lZ44, lZ30, lZ25, lZ23, lZ14, List.getD_cons_zero, List.getD_cons_succ, w_add, w_addl, w_sub, w_subl, w_mull, w_mulr, decide_eq_true, decide_eq_false, addr_add0, Nat.add_zero, Nat.zero_add, toI_int]
    exact B
  simp (maxSteps := 1000000) (disch := omega) only [List.getElem_cons_zero, List.getElem_cons_succ, and_true, true_and, decide_true, decide_false, Bool.not_true, Bool.not_false, lZ40, lZ37, lZ32, lZ12, lZ26, lZ39, lZ22, lZ1, lZ4, lZ6, lZ0, lZ2, lZ5, lZ83, lZ34, lZ27, I.at, atL, atO, atP, lZ20, lZ18, lZ97, lZ98, evp, evs, lZ10, ↓reduceIte, Nat.reduceEqDiff, reduceCtorEq, Value.bool.injEq, Bool.false_eq_true, Bool.true_eq_false, lZ8, lZ7, lZ68, lZ43, lZ91, lZ81, lZ93, lZ82, lZ96, lZ46, lZ21, lZ67, lZ64, lZ49, lZ52, lZ59, lZ66, lZ95, lZ56, lZ76, lZ57, lZ61, lZ79, lZ50, lZ42, lZ84, lZ55, lZ33, lZ75, lZ77, lZ73, lZ36, bff, btf, Option.isNone_some, Option.isNone_none, lZ9, lZ16, lZ3, retV, lZ44, lZ30, lZ25, lZ23, lZ14, List.getD_cons_zero, List.getD_cons_succ, w_add, w_addl, w_sub, w_subl, w_mull, w_mulr, decide_eq_true, decide_eq_false, addr_add0, Nat.add_zero, Nat.zero_add, toI_int, hP2.Xlen, lP2]
  by_cases hbig2 : 1024 < Q2.length
  · simp (maxSteps := 1000000) (disch := omega) only [List.getElem_cons_zero, List.getElem_cons_succ, and_true, true_and, decide_true, decide_false, Bool.not_true, Bool.not_false, lZ40, lZ37, lZ32, lZ12, lZ26, lZ39, lZ22, lZ1, lZ4, lZ6, lZ0, lZ2, lZ5, lZ83, lZ34, lZ27, I.at, atL, atO, atP, lZ20, lZ18, lZ97, lZ98, evp, evs, lZ10, ↓reduceIte, Nat.reduceEqDiff, reduceCtorEq, Value.bool.injEq, Bool.false_eq_true, Bool.true_eq_false, lZ8, lZ7, lZ68, lZ43, lZ91, lZ81, lZ93, lZ82, lZ96, lZ46, lZ21, lZ67, lZ64, lZ49, lZ52, lZ59, lZ66, lZ95, lZ56, lZ76, lZ57, lZ61, lZ79, lZ50, lZ42, lZ84, lZ55, lZ33, lZ75, lZ77, lZ73, lZ36, bff, btf, Option.isNone_some, Option.isNone_none, lZ9, lZ16, lZ3, retV, lZ44, lZ30, lZ25, lZ23, lZ14, List.getD_cons_zero, List.getD_cons_succ, w_add, w_addl, w_sub, w_subl, w_mull, w_mulr, decide_eq_true, decide_eq_false, addr_add0, Nat.add_zero, Nat.zero_add, toI_int]
    exact B
  simp (maxSteps := 1000000) (disch := omega) only [List.getElem_cons_zero, List.getElem_cons_succ, and_true, true_and, decide_true, decide_false, Bool.not_true, Bool.not_false, lZ40, lZ37, lZ32, lZ12, lZ26, lZ39, lZ22, lZ1, lZ4, lZ6, lZ0, lZ2, lZ5, lZ83, lZ34, lZ27, I.at, atL, atO, atP, lZ20, lZ18, lZ97, lZ98, evp, evs, lZ10, ↓reduceIte, Nat.reduceEqDiff, reduceCtorEq, Value.bool.injEq, Bool.false_eq_true, Bool.true_eq_false, lZ8, lZ7, lZ68, lZ43, lZ91, lZ81, lZ93, lZ82, lZ96, lZ46, lZ21, lZ67, lZ64, lZ49, lZ52, lZ59, lZ66, lZ95, lZ56, lZ76, lZ57, lZ61, lZ79, lZ50, lZ42, lZ84, lZ55, lZ33, lZ75, lZ77, lZ73, lZ36, bff, btf, Option.isNone_some, Option.isNone_none, lZ9, lZ16, lZ3, retV, lZ44, lZ30, lZ25, lZ23, lZ14, List.getD_cons_zero, List.getD_cons_succ, w_add, w_addl, w_sub, w_subl, w_mull, w_mulr, decide_eq_true, decide_eq_false, addr_add0, Nat.add_zero, Nat.zero_add, toI_int, hr.Xldn (n := 2) rfl, hro.Xld (show 1 < _ by simp), hro.Xld (show 5 < _ by simp)]
  have tQ := tln_le Q
  have tQ2 := tln_le Q2
  refine X_call0 ((culletlaw04_Rings_partial_b_spec w10 rb rw P P2 (Q.map em8) (Q2.map em8) n hb hw hP hP2 (by omega) (by omega)).mono ?_)
  rw [lo8_map_em8, lo8_map_em8]
  rintro _ w11 ⟨hB, ⟨-, -, h0, sm, su, sv, m, u, v', rfl, om, ou, ov, hE⟩ | ⟨-, -, h0, sm, su, sv, rfl, om, ou, ov⟩ | ⟨hn, -⟩⟩
  rotate_left
  · have hro := hro.up hB
    have B := B.trans (hB.mono B.size)
    clear hB
    simp (maxSteps := 1000000) (disch := omega) only [List.getElem_cons_zero, List.getElem_cons_succ, and_true, true_and, decide_true, decide_false, Bool.not_true, Bool.not_false, lZ40, lZ37, lZ32, lZ12, lZ26, lZ39, lZ22, lZ1, lZ4, lZ6, lZ0, lZ2, lZ5, lZ83, lZ34, lZ27, I.at, atL, atO, atP, lZ20, lZ18, lZ97, lZ98, evp, evs, lZ10, ↓reduceIte, Nat.reduceEqDiff, reduceCtorEq, Value.bool.injEq, Bool.false_eq_true, Bool.true_eq_false, lZ8, lZ7, lZ68, lZ43, lZ91, lZ81, lZ93, lZ82, lZ96, lZ46, lZ21, lZ67, lZ64, lZ49, lZ52, lZ59, lZ66, lZ95, lZ56, lZ76, lZ57, lZ61, lZ79, lZ50, lZ42, lZ84, lZ55, lZ33, lZ75, lZ77, lZ73, lZ36, bff, btf, Option.isNone_some, Option.isNone_none, lZ9, lZ16, lZ3, retV, lZ44, lZ30, lZ25, lZ23, lZ14, List.getD_cons_zero, List.getD_cons_succ, w_add, w_addl, w_sub, w_subl, w_mull, w_mulr, decide_eq_true, decide_eq_false, addr_add0, Nat.add_zero, Nat.zero_add, toI_int, hro.Xld (show 5 < _ by simp), om.sl.Xlen, ou.sl.Xlen, ov.sl.Xlen, List.length_nil, show decide (((0 : Nat) : Int) = 0) = true from rfl]
    exact B
  · exact absurd ⟨by omega, by omega⟩ hn
  have om := om.sl
  have ou := ou.sl
  have ov := ov.sl
  have hro := hro.up hB
  have hb := hb.up hB
  have hw := hw.up hB
  have hr := hr.up hB
  have hP := hP.up hB
  have hP2 := hP2.up hB
  have B := B.trans (hB.mono B.size)
  clear hB
  obtain ⟨D, rfl⟩ : ∃ D : Nat, n = (D : Int) := ⟨n.toNat, by omega⟩
  rw [Int.toNat_natCast] at hE
  have hp := hE.whole
  obtain ⟨y1, y2, y3, y4⟩ := hE.lens
  have y5 := hE.mlen (N := 1024) (by rw [tr_len]; omega) (by rw [tr_len]; omega)
  have y6 := hp.lm
  have lm : (m.map em8).length = m.length := List.length_map _
  have lu : (u.map em8).length = u.length := List.length_map _
  have lv : (v'.map em8).length = v'.length := List.length_map _
  simp (maxSteps := 1000000) (disch := omega) only [List.getElem_cons_zero, List.getElem_cons_succ, and_true, true_and, decide_true, decide_false, Bool.not_true, Bool.not_false, lZ40, lZ37, lZ32, lZ12, lZ26, lZ39, lZ22, lZ1, lZ4, lZ6, lZ0, lZ2, lZ5, lZ83, lZ34, lZ27, I.at, atL, atO, atP, lZ20, lZ18, lZ97, lZ98, evp, evs, lZ10, ↓reduceIte, Nat.reduceEqDiff, reduceCtorEq, Value.bool.injEq, Bool.false_eq_true, Bool.true_eq_false, lZ8, lZ7, lZ68, lZ43, lZ91, lZ81, lZ93, lZ82, lZ96, lZ46, lZ21, lZ67, lZ64, lZ49, lZ52, lZ59, lZ66, lZ95, lZ56, lZ76, lZ57, lZ61, lZ79, lZ50, lZ42, lZ84, lZ55, lZ33, lZ75, lZ77, lZ73, lZ36, bff, btf, Option.isNone_some, Option.isNone_none, lZ9, lZ16, lZ3, retV, lZ44, lZ30, lZ25, lZ23, lZ14, List.getD_cons_zero, List.getD_cons_succ, w_add, w_addl, w_sub, w_subl, w_mull, w_mulr, decide_eq_true, decide_eq_false, addr_add0, Nat.add_zero, Nat.zero_add, toI_int, hro.Xld (show 5 < _ by simp)]
  refine X_call0 ((culletlaw04_neat_spec w11 sm (m.map em8) om (by omega)).mono ?_)
  rintro _ w12 ⟨rfl, rfl⟩
  simp (maxSteps := 1000000) (disch := omega) only [List.getElem_cons_zero, List.getElem_cons_succ, and_true, true_and, decide_true, decide_false, Bool.not_true, Bool.not_false, lZ40, lZ37, lZ32, lZ12, lZ26, lZ39, lZ22, lZ1, lZ4, lZ6, lZ0, lZ2, lZ5, lZ83, lZ34, lZ27, I.at, atL, atO, atP, lZ20, lZ18, lZ97, lZ98, evp, evs, lZ10, ↓reduceIte, Nat.reduceEqDiff, reduceCtorEq, Value.bool.injEq, Bool.false_eq_true, Bool.true_eq_false, lZ8, lZ7, lZ68, lZ43, lZ91, lZ81, lZ93, lZ82, lZ96, lZ46, lZ21, lZ67, lZ64, lZ49, lZ52, lZ59, lZ66, lZ95, lZ56, lZ76, lZ57, lZ61, lZ79, lZ50, lZ42, lZ84, lZ55, lZ33, lZ75, lZ77, lZ73, lZ36, bff, btf, Option.isNone_some, Option.isNone_none, lZ9, lZ16, lZ3, retV, lZ44, lZ30, lZ25, lZ23, lZ14, List.getD_cons_zero, List.getD_cons_succ, w_add, w_addl, w_sub, w_subl, w_mull, w_mulr, decide_eq_true, decide_eq_false, addr_add0, Nat.add_zero, Nat.zero_add, toI_int, show decide ((m.map em8).length = tln (m.map em8)) = true from decide_eq_true (by rw [tln_em8, lm]; exact len_tr hp.tm)]
  refine X_call0 ((culletlaw04_neat_spec w12 su (u.map em8) ou (by omega)).mono ?_)
  rintro _ w11 ⟨rfl, rfl⟩
  simp (maxSteps := 1000000) (disch := omega) only [List.getElem_cons_zero, List.getElem_cons_succ, and_true, true_and, decide_true, decide_false, Bool.not_true, Bool.not_false, lZ40, lZ37, lZ32, lZ12, lZ26, lZ39, lZ22, lZ1, lZ4, lZ6, lZ0, lZ2, lZ5, lZ83, lZ34, lZ27, I.at, atL, atO, atP, lZ20, lZ18, lZ97, lZ98, evp, evs, lZ10, ↓reduceIte, Nat.reduceEqDiff, reduceCtorEq, Value.bool.injEq, Bool.false_eq_true, Bool.true_eq_false, lZ8, lZ7, lZ68, lZ43, lZ91, lZ81, lZ93, lZ82, lZ96, lZ46, lZ21, lZ67, lZ64, lZ49, lZ52, lZ59, lZ66, lZ95, lZ56, lZ76, lZ57, lZ61, lZ79, lZ50, lZ42, lZ84, lZ55, lZ33, lZ75, lZ77, lZ73, lZ36, bff, btf, Option.isNone_some, Option.isNone_none, lZ9, lZ16, lZ3, retV, lZ44, lZ30, lZ25, lZ23, lZ14, List.getD_cons_zero, List.getD_cons_succ, w_add, w_addl, w_sub, w_subl, w_mull, w_mulr, decide_eq_true, decide_eq_false, addr_add0, Nat.add_zero, Nat.zero_add, toI_int, show decide ((u.map em8).length = tln (u.map em8)) = true from decide_eq_true (by rw [tln_em8, lu]; exact len_tr hp.tu)]
  refine X_call0 ((culletlaw04_neat_spec w11 sv (v'.map em8) ov (by omega)).mono ?_)
  rintro _ w12 ⟨rfl, rfl⟩
  rw [show decide ((v'.map em8).length = tln (v'.map em8)) = true from decide_eq_true (by rw [tln_em8, lv]; exact len_tr hp.tv)]
  simp (maxSteps := 1000000) (disch := omega) only [List.getElem_cons_zero, List.getElem_cons_succ, and_true, true_and, decide_true, decide_false, Bool.not_true, Bool.not_false, lZ40, lZ37, lZ32, lZ12, lZ26, lZ39, lZ22, lZ1, lZ4, lZ6, lZ0, lZ2, lZ5, lZ83, lZ34, lZ27, I.at, atL, atO, atP, lZ20, lZ18, lZ97, lZ98, evp, evs, lZ10, ↓reduceIte, Nat.reduceEqDiff, reduceCtorEq, Value.bool.injEq, Bool.false_eq_true, Bool.true_eq_false, lZ8, lZ7, lZ68, lZ43, lZ91, lZ81, lZ93, lZ82, lZ96, lZ46, lZ21, lZ67, lZ64, lZ49, lZ52, lZ59, lZ66, lZ95, lZ56, lZ76, lZ57, lZ61, lZ79, lZ50, lZ42, lZ84, lZ55, lZ33, lZ75, lZ77, lZ73, lZ36, bff, btf, Option.isNone_some, Option.isNone_none, lZ9, lZ16, lZ3, retV, lZ44, lZ30, lZ25, lZ23, lZ14, List.getD_cons_zero, List.getD_cons_succ, w_add, w_addl, w_sub, w_subl, w_mull, w_mulr, decide_eq_true, decide_eq_false, addr_add0, Nat.add_zero, Nat.zero_add, toI_int, om.Xlen, ou.Xlen, ov.Xlen, lm, lu, lv, hro.Xld (show 5 < _ by simp), hr.Xldn (n := 2) rfl, hro.Xld (show 1 < _ by simp)]
  refine X_call0 ((culletlaw04_Rings_mul_b_spec w12 rb rw su P _ _ hb hw ou hP (by omega) (by omega)).mono ?_)
  rw [lo8_map_em8, lo8_map_em8]
  rintro _ w13 ⟨hB, ⟨-, -, sa, a, rfl, oa, ta, ha, la⟩ | ⟨hn, -⟩⟩
  rotate_left
  · exact absurd ⟨by omega, by omega⟩ hn
  have oa := oa.sl
  have hro := hro.up hB
  have hb := hb.up hB
  have hw := hw.up hB
  have hr := hr.up hB
  have hP := hP.up hB
  have hP2 := hP2.up hB
  have om := om.up hB
  have ou := ou.up hB
  have ov := ov.up hB
  have B := B.trans (hB.mono B.size)
  clear hB
  simp (maxSteps := 1000000) (disch := omega) only [List.getElem_cons_zero, List.getElem_cons_succ, and_true, true_and, decide_true, decide_false, Bool.not_true, Bool.not_false, lZ40, lZ37, lZ32, lZ12, lZ26, lZ39, lZ22, lZ1, lZ4, lZ6, lZ0, lZ2, lZ5, lZ83, lZ34, lZ27, I.at, atL, atO, atP, lZ20, lZ18, lZ97, lZ98, evp, evs, lZ10, ↓reduceIte, Nat.reduceEqDiff, reduceCtorEq, Value.bool.injEq, Bool.false_eq_true, Bool.true_eq_false, lZ8, lZ7, lZ68, lZ43, lZ91, lZ81, lZ93, lZ82, lZ96, lZ46, lZ21, lZ67, lZ64, lZ49, lZ52, lZ59, lZ66, lZ95, lZ56, lZ76, lZ57, lZ61, lZ79, lZ50, lZ42, lZ84, lZ55, lZ33, lZ75, lZ77, lZ73, lZ36, bff, btf, Option.isNone_some, Option.isNone_none, lZ9, lZ16, lZ3, retV, lZ44, lZ30, lZ25, lZ23, lZ14, List.getD_cons_zero, List.getD_cons_succ, w_add, w_addl, w_sub, w_subl, w_mull, w_mulr, decide_eq_true, decide_eq_false, addr_add0, Nat.add_zero, Nat.zero_add, toI_int, hr.Xldn (n := 2) rfl, hro.Xld (show 1 < _ by simp)]
  refine X_call0 ((culletlaw04_Rings_mul_b_spec w13 rb rw sv P2 _ _ hb hw ov hP2 (by omega) (by omega)).mono ?_)
  rw [lo8_map_em8, lo8_map_em8]
  rintro _ w14 ⟨hB, ⟨-, -, sb, b, rfl, ob, tb, hbb, lb⟩ | ⟨hn, -⟩⟩
  rotate_left
  · exact absurd ⟨by omega, by omega⟩ hn
  have ob := ob.sl
  have hro := hro.up hB
  have hb := hb.up hB
  have hw := hw.up hB
  have hr := hr.up hB
  have hP := hP.up hB
  have hP2 := hP2.up hB
  have om := om.up hB
  have ou := ou.up hB
  have ov := ov.up hB
  have oa := oa.up hB
  have B := B.trans (hB.mono B.size)
  clear hB
  have la' : (a.map em8).length = a.length := List.length_map _
  have lb' : (b.map em8).length = b.length := List.length_map _
  simp (maxSteps := 1000000) (disch := omega) only [List.getElem_cons_zero, List.getElem_cons_succ, and_true, true_and, decide_true, decide_false, Bool.not_true, Bool.not_false, lZ40, lZ37, lZ32, lZ12, lZ26, lZ39, lZ22, lZ1, lZ4, lZ6, lZ0, lZ2, lZ5, lZ83, lZ34, lZ27, I.at, atL, atO, atP, lZ20, lZ18, lZ97, lZ98, evp, evs, lZ10, ↓reduceIte, Nat.reduceEqDiff, reduceCtorEq, Value.bool.injEq, Bool.false_eq_true, Bool.true_eq_false, lZ8, lZ7, lZ68, lZ43, lZ91, lZ81, lZ93, lZ82, lZ96, lZ46, lZ21, lZ67, lZ64, lZ49, lZ52, lZ59, lZ66, lZ95, lZ56, lZ76, lZ57, lZ61, lZ79, lZ50, lZ42, lZ84, lZ55, lZ33, lZ75, lZ77, lZ73, lZ36, bff, btf, Option.isNone_some, Option.isNone_none, lZ9, lZ16, lZ3, retV, lZ44, lZ30, lZ25, lZ23, lZ14, List.getD_cons_zero, List.getD_cons_succ, w_add, w_addl, w_sub, w_subl, w_mull, w_mulr, decide_eq_true, decide_eq_false, addr_add0, Nat.add_zero, Nat.zero_add, toI_int, hr.Xldn (n := 2) rfl, hro.Xld (show 1 < _ by simp)]
  refine X_call0 ((culletlaw04_Rings_add_b_spec w14 rb rw sa sb _ _ hb hw oa ob (by omega) (by omega)).mono ?_)
  rw [lo8_map_em8, lo8_map_em8]
  rintro sc w15 ⟨hB, c, oc, tc, hc, lc⟩
  have oc := oc.sl
  have hro := hro.up hB
  have hb := hb.up hB
  have hw := hw.up hB
  have hr := hr.up hB
  have hP := hP.up hB
  have hP2 := hP2.up hB
  have om := om.up hB
  have ou := ou.up hB
  have ov := ov.up hB
  have B := B.trans (hB.mono B.size)
  clear hB
  clear oa ob
  obtain rfl : m = c := (tr_inj tc hp.tm (by rw [hc, ha, hbb, hp.eq])).symm
  simp (maxSteps := 1000000) (disch := omega) only [List.getElem_cons_zero, List.getElem_cons_succ, and_true, true_and, decide_true, decide_false, Bool.not_true, Bool.not_false, lZ40, lZ37, lZ32, lZ12, lZ26, lZ39, lZ22, lZ1, lZ4, lZ6, lZ0, lZ2, lZ5, lZ83, lZ34, lZ27, I.at, atL, atO, atP, lZ20, lZ18, lZ97, lZ98, evp, evs, lZ10, ↓reduceIte, Nat.reduceEqDiff, reduceCtorEq, Value.bool.injEq, Bool.false_eq_true, Bool.true_eq_false, lZ8, lZ7, lZ68, lZ43, lZ91, lZ81, lZ93, lZ82, lZ96, lZ46, lZ21, lZ67, lZ64, lZ49, lZ52, lZ59, lZ66, lZ95, lZ56, lZ76, lZ57, lZ61, lZ79, lZ50, lZ42, lZ84, lZ55, lZ33, lZ75, lZ77, lZ73, lZ36, bff, btf, Option.isNone_some, Option.isNone_none, lZ9, lZ16, lZ3, retV, lZ44, lZ30, lZ25, lZ23, lZ14, List.getD_cons_zero, List.getD_cons_succ, w_add, w_addl, w_sub, w_subl, w_mull, w_mulr, decide_eq_true, decide_eq_false, addr_add0, Nat.add_zero, Nat.zero_add, toI_int]
  refine X_call0 ((culletlaw04_same_spec w15 sc sm _ _ oc om (by omega) (by omega)).mono ?_)
  rintro _ w16 ⟨rfl, hk⟩
  have hB := hk.1
  have hro := hro.up hB
  have hb := hb.up hB
  have hw := hw.up hB
  have hr := hr.up hB
  have hP := hP.up hB
  have hP2 := hP2.up hB
  have om := om.up hB
  have ou := ou.up hB
  have ov := ov.up hB
  have B := B.trans (hB.mono B.size)
  clear hB
  clear hk oc
  simp (maxSteps := 1000000) (disch := omega) only [List.getElem_cons_zero, List.getElem_cons_succ, and_true, true_and, decide_true, decide_false, Bool.not_true, Bool.not_false, lZ40, lZ37, lZ32, lZ12, lZ26, lZ39, lZ22, lZ1, lZ4, lZ6, lZ0, lZ2, lZ5, lZ83, lZ34, lZ27, I.at, atL, atO, atP, lZ20, lZ18, lZ97, lZ98, evp, evs, lZ10, ↓reduceIte, Nat.reduceEqDiff, reduceCtorEq, Value.bool.injEq, Bool.false_eq_true, Bool.true_eq_false, lZ8, lZ7, lZ68, lZ43, lZ91, lZ81, lZ93, lZ82, lZ96, lZ46, lZ21, lZ67, lZ64, lZ49, lZ52, lZ59, lZ66, lZ95, lZ56, lZ76, lZ57, lZ61, lZ79, lZ50, lZ42, lZ84, lZ55, lZ33, lZ75, lZ77, lZ73, lZ36, bff, btf, Option.isNone_some, Option.isNone_none, lZ9, lZ16, lZ3, retV, lZ44, lZ30, lZ25, lZ23, lZ14, List.getD_cons_zero, List.getD_cons_succ, w_add, w_addl, w_sub, w_subl, w_mull, w_mulr, decide_eq_true, decide_eq_false, addr_add0, Nat.add_zero, Nat.zero_add, toI_int, hr.Xldn (n := 2) rfl, hro.Xld (show 1 < _ by simp)]
  refine X_call0 ((culletlaw04_Rings_gcd_b_spec w16 rb rw su sv _ _ hb hw ou ov (by omega) (by omega)).mono ?_)
  rw [lo8_map_em8, lo8_map_em8]
  rintro _ w17 ⟨hB, ⟨-, -, sg, g, rfl, og, tg, hd1, hd2, -, htop, lg⟩ | ⟨hn, -⟩⟩
  rotate_left
  · exact absurd ⟨by omega, by omega⟩ hn
  have og := og.sl
  have hro := hro.up hB
  have hb := hb.up hB
  have hw := hw.up hB
  have hr := hr.up hB
  have hP := hP.up hB
  have hP2 := hP2.up hB
  have om := om.up hB
  have ov := ov.up hB
  have B := B.trans (hB.mono B.size)
  clear hB
  clear ou
  obtain rfl : g = [1] := by
    obtain ⟨p, q, hpp, hpq, he⟩ := hp.cop
    exact dv_one tg htop (he ▸ (hd1.mul hpp).add (hd2.mul hpq))
  simp (maxSteps := 1000000) (disch := omega) only [List.getElem_cons_zero, List.getElem_cons_succ, and_true, true_and, decide_true, decide_false, Bool.not_true, Bool.not_false, lZ40, lZ37, lZ32, lZ12, lZ26, lZ39, lZ22, lZ1, lZ4, lZ6, lZ0, lZ2, lZ5, lZ83, lZ34, lZ27, I.at, atL, atO, atP, lZ20, lZ18, lZ97, lZ98, evp, evs, lZ10, ↓reduceIte, Nat.reduceEqDiff, reduceCtorEq, Value.bool.injEq, Bool.false_eq_true, Bool.true_eq_false, lZ8, lZ7, lZ68, lZ43, lZ91, lZ81, lZ93, lZ82, lZ96, lZ46, lZ21, lZ67, lZ64, lZ49, lZ52, lZ59, lZ66, lZ95, lZ56, lZ76, lZ57, lZ61, lZ79, lZ50, lZ42, lZ84, lZ55, lZ33, lZ75, lZ77, lZ73, lZ36, bff, btf, Option.isNone_some, Option.isNone_none, lZ9, lZ16, lZ3, retV, lZ44, lZ30, lZ25, lZ23, lZ14, List.getD_cons_zero, List.getD_cons_succ, w_add, w_addl, w_sub, w_subl, w_mull, w_mulr, decide_eq_true, decide_eq_false, addr_add0, Nat.add_zero, Nat.zero_add, toI_int]
  refine X_bsl (zs := [(⟨1⟩ : El 16)]) (by rfl) (by rfl) fun c1 w18 hc1 hB => ?_
  have hro := hro.up hB
  have hb := hb.up hB
  have hw := hw.up hB
  have hr := hr.up hB
  have hP := hP.up hB
  have hP2 := hP2.up hB
  have om := om.up hB
  have ov := ov.up hB
  have og := og.up hB
  have B := B.trans (hB.mono B.size)
  clear hB
  simp (maxSteps := 1000000) (disch := omega) only [List.getElem_cons_zero, List.getElem_cons_succ, and_true, true_and, decide_true, decide_false, Bool.not_true, Bool.not_false, lZ40, lZ37, lZ32, lZ12, lZ26, lZ39, lZ22, lZ1, lZ4, lZ6, lZ0, lZ2, lZ5, lZ83, lZ34, lZ27, I.at, atL, atO, atP, lZ20, lZ18, lZ97, lZ98, evp, evs, lZ10, ↓reduceIte, Nat.reduceEqDiff, reduceCtorEq, Value.bool.injEq, Bool.false_eq_true, Bool.true_eq_false, lZ8, lZ7, lZ68, lZ43, lZ91, lZ81, lZ93, lZ82, lZ96, lZ46, lZ21, lZ67, lZ64, lZ49, lZ52, lZ59, lZ66, lZ95, lZ56, lZ76, lZ57, lZ61, lZ79, lZ50, lZ42, lZ84, lZ55, lZ33, lZ75, lZ77, lZ73, lZ36, bff, btf, Option.isNone_some, Option.isNone_none, lZ9, lZ16, lZ3, retV, lZ44, lZ30, lZ25, lZ23, lZ14, List.getD_cons_zero, List.getD_cons_succ, w_add, w_addl, w_sub, w_subl, w_mull, w_mulr, decide_eq_true, decide_eq_false, addr_add0, Nat.add_zero, Nat.zero_add, toI_int]
  refine X_call0 ((culletlaw04_same_spec w18 sg c1 _ _ og hc1.sl (by simp) (by simp)).mono ?_)
  rintro _ w19 ⟨rfl, hk⟩
  have hB := hk.1
  have hro := hro.up hB
  have hb := hb.up hB
  have hw := hw.up hB
  have hr := hr.up hB
  have hP := hP.up hB
  have hP2 := hP2.up hB
  have om := om.up hB
  have ov := ov.up hB
  have B := B.trans (hB.mono B.size)
  clear hB
  clear hk hc1 og
  simp (maxSteps := 1000000) (disch := omega) only [List.getElem_cons_zero, List.getElem_cons_succ, and_true, true_and, decide_true, decide_false, Bool.not_true, Bool.not_false, lZ40, lZ37, lZ32, lZ12, lZ26, lZ39, lZ22, lZ1, lZ4, lZ6, lZ0, lZ2, lZ5, lZ83, lZ34, lZ27, I.at, atL, atO, atP, lZ20, lZ18, lZ97, lZ98, evp, evs, lZ10, ↓reduceIte, Nat.reduceEqDiff, reduceCtorEq, Value.bool.injEq, Bool.false_eq_true, Bool.true_eq_false, lZ8, lZ7, lZ68, lZ43, lZ91, lZ81, lZ93, lZ82, lZ96, lZ46, lZ21, lZ67, lZ64, lZ49, lZ52, lZ59, lZ66, lZ95, lZ56, lZ76, lZ57, lZ61, lZ79, lZ50, lZ42, lZ84, lZ55, lZ33, lZ75, lZ77, lZ73, lZ36, bff, btf, Option.isNone_some, Option.isNone_none, lZ9, lZ16, lZ3, retV, lZ44, lZ30, lZ25, lZ23, lZ14, List.getD_cons_zero, List.getD_cons_succ, w_add, w_addl, w_sub, w_subl, w_mull, w_mulr, decide_eq_true, decide_eq_false, addr_add0, Nat.add_zero, Nat.zero_add, toI_int, show decide (List.map em8 [(1 : El 8)] = [(⟨1⟩ : El 16)]) = true from rfl]
  refine WP_dops ?_
  simp (maxSteps := 1000000) (disch := omega) only [lZ38, lZ28, lZ15, lZ29, lZ17, lZ72, lZ11, lZ24, lZ19, lZ92, List.mem_cons, List.not_mem_nil, or_self, List.getElem_cons_zero, List.getElem_cons_succ, or_false, false_or, false_implies, implies_true, forall_const, lZ60, lZ41, lZ78, lZ71, lZ86, lZ94, lZ99, lZ87, lZ13, lZ88, lZ65, lZ74, lZ45, lZ89, lZ58, lZ85, lZ69, lZ54, lZ62, lZ90, lZ47, lZ70, lZ31, lZ63, lZ80, lZ35, lZ48, lZ53, lZ51, List.getElem_cons_zero, List.getElem_cons_succ, and_true, true_and, decide_true, decide_false, Bool.not_true, Bool.not_false, lZ40, lZ37, lZ32, lZ12, lZ26, lZ39, lZ22, lZ1, lZ4, lZ6, lZ0, lZ2, lZ5, lZ83, lZ34, lZ27, I.at, atL, atO, atP, lZ20, lZ18, lZ97, lZ98, evp, evs, lZ10, ↓reduceIte, Nat.reduceEqDiff, reduceCtorEq, Value.bool.injEq, Bool.false_eq_true, Bool.true_eq_false, lZ8, lZ7, lZ68, lZ43, lZ91, lZ81, lZ93, lZ82, lZ96, lZ46, lZ21, lZ67, lZ64, lZ49, lZ52, lZ59, lZ66, lZ95, lZ56, lZ76, lZ57, lZ61, lZ79, lZ50, lZ42, lZ84, lZ55, lZ33, lZ75, lZ77, lZ73, lZ36, bff, btf, Option.isNone_some, Option.isNone_none, lZ9, lZ16, lZ3, retV, lZ44, lZ30, lZ25, lZ23, lZ14, List.getD_cons_zero, List.getD_cons_succ, w_add, w_addl, w_sub, w_subl, w_mull, w_mulr, decide_eq_true, decide_eq_false, addr_add0, Nat.add_zero, Nat.zero_add, toI_int]
  refine E_call0 ((culletlaw04_high_spec w19.drew P (Q.map em8) hP.drew (by omega)).mono ?_)
  rintro _ w20 ⟨rfl, rfl⟩
  rw [tln_em8]
  have zd : Fw.sees Try.prog (.ld (.c (.pointer (some ⟨bo, 5, none⟩)))) w19.drew (.int .i64 (D : Int)) = True := hro.drew.sees (o := 5) (by simp) Try.prog
  simp (maxSteps := 1000000) (disch := omega) only [lZ38, lZ28, lZ15, lZ29, lZ17, lZ72, lZ11, lZ24, lZ19, lZ92, List.mem_cons, List.not_mem_nil, or_self, List.getElem_cons_zero, List.getElem_cons_succ, or_false, false_or, false_implies, implies_true, forall_const, lZ60, lZ41, lZ78, lZ71, lZ86, lZ94, lZ99, lZ87, lZ13, lZ88, lZ65, lZ74, lZ45, lZ89, lZ58, lZ85, lZ69, lZ54, lZ62, lZ90, lZ47, lZ70, lZ31, lZ63, lZ80, lZ35, lZ48, lZ53, lZ51, List.getElem_cons_zero, List.getElem_cons_succ, and_true, true_and, decide_true, decide_false, Bool.not_true, Bool.not_false, lZ40, lZ37, lZ32, lZ12, lZ26, lZ39, lZ22, lZ1, lZ4, lZ6, lZ0, lZ2, lZ5, lZ83, lZ34, lZ27, I.at, atL, atO, atP, lZ20, lZ18, lZ97, lZ98, evp, evs, lZ10, ↓reduceIte, Nat.reduceEqDiff, reduceCtorEq, Value.bool.injEq, Bool.false_eq_true, Bool.true_eq_false, lZ8, lZ7, lZ68, lZ43, lZ91, lZ81, lZ93, lZ82, lZ96, lZ46, lZ21, lZ67, lZ64, lZ49, lZ52, lZ59, lZ66, lZ95, lZ56, lZ76, lZ57, lZ61, lZ79, lZ50, lZ42, lZ84, lZ55, lZ33, lZ75, lZ77, lZ73, lZ36, bff, btf, Option.isNone_some, Option.isNone_none, lZ9, lZ16, lZ3, retV, lZ44, lZ30, lZ25, lZ23, lZ14, List.getD_cons_zero, List.getD_cons_succ, w_add, w_addl, w_sub, w_subl, w_mull, w_mulr, decide_eq_true, decide_eq_false, addr_add0, Nat.add_zero, Nat.zero_add, toI_int, hro.drew.Eld (show 5 < _ by simp), zd]
  have B := B.trans ((bel_drew w19).mono B.size)
  have hro := hro.drew
  have hb := hb.drew
  have hw := hw.drew
  have hr := hr.drew
  have hP := hP.drew
  have hP2 := hP2.drew
  have om := om.drew
  have ov := ov.drew
  generalize w19.drew = w19 at *
  by_cases hsm : tln Q ≤ D
  · obtain ⟨rfl, rfl⟩ := y3 hsm
    simp (maxSteps := 1000000) (disch := omega) only [List.getElem_cons_zero, List.getElem_cons_succ, and_true, true_and, decide_true, decide_false, Bool.not_true, Bool.not_false, lZ40, lZ37, lZ32, lZ12, lZ26, lZ39, lZ22, lZ1, lZ4, lZ6, lZ0, lZ2, lZ5, lZ83, lZ34, lZ27, I.at, atL, atO, atP, lZ20, lZ18, lZ97, lZ98, evp, evs, lZ10, ↓reduceIte, Nat.reduceEqDiff, reduceCtorEq, Value.bool.injEq, Bool.false_eq_true, Bool.true_eq_false, lZ8, lZ7, lZ68, lZ43, lZ91, lZ81, lZ93, lZ82, lZ96, lZ46, lZ21, lZ67, lZ64, lZ49, lZ52, lZ59, lZ66, lZ95, lZ56, lZ76, lZ57, lZ61, lZ79, lZ50, lZ42, lZ84, lZ55, lZ33, lZ75, lZ77, lZ73, lZ36, bff, btf, Option.isNone_some, Option.isNone_none, lZ9, lZ16, lZ3, retV, lZ44, lZ30, lZ25, lZ23, lZ14, List.getD_cons_zero, List.getD_cons_succ, w_add, w_addl, w_sub, w_subl, w_mull, w_mulr, decide_eq_true, decide_eq_false, addr_add0, Nat.add_zero, Nat.zero_add, toI_int, hr.Xldn (n := 2) rfl, hro.Xld (show 1 < _ by simp)]
    refine X_call0 ((culletlaw04_Rings_trim_b_spec w19 rb rw P _ hb hw hP (by omega)).mono ?_)
    rw [lo8_map_em8]
    rintro st w20 ⟨hB, f, of, tf, hcf, hlf⟩
    have of := of.sl
    have om := om.up hB
    have ov := ov.up hB
    have B := B.trans (hB.mono B.size)
    clear hB
    obtain rfl : f = tr Q := tr_inj tf (tr_tr Q) (by rw [hcf, tr_co])
    simp (maxSteps := 1000000) (disch := omega) only [List.getElem_cons_zero, List.getElem_cons_succ, and_true, true_and, decide_true, decide_false, Bool.not_true, Bool.not_false, lZ40, lZ37, lZ32, lZ12, lZ26, lZ39, lZ22, lZ1, lZ4, lZ6, lZ0, lZ2, lZ5, lZ83, lZ34, lZ27, I.at, atL, atO, atP, lZ20, lZ18, lZ97, lZ98, evp, evs, lZ10, ↓reduceIte, Nat.reduceEqDiff, reduceCtorEq, Value.bool.injEq, Bool.false_eq_true, Bool.true_eq_false, lZ8, lZ7, lZ68, lZ43, lZ91, lZ81, lZ93, lZ82, lZ96, lZ46, lZ21, lZ67, lZ64, lZ49, lZ52, lZ59, lZ66, lZ95, lZ56, lZ76, lZ57, lZ61, lZ79, lZ50, lZ42, lZ84, lZ55, lZ33, lZ75, lZ77, lZ73, lZ36, bff, btf, Option.isNone_some, Option.isNone_none, lZ9, lZ16, lZ3, retV, lZ44, lZ30, lZ25, lZ23, lZ14, List.getD_cons_zero, List.getD_cons_succ, w_add, w_addl, w_sub, w_subl, w_mull, w_mulr, decide_eq_true, decide_eq_false, addr_add0, Nat.add_zero, Nat.zero_add, toI_int]
    refine X_call0 ((culletlaw04_same_spec w20 sm st _ _ om of (by omega) (by omega)).mono ?_)
    rintro _ w21 ⟨rfl, hk⟩
    have hB := hk.1
    have ov := ov.up hB
    have B := B.trans (hB.mono B.size)
    clear hB
    clear hk
    simp only [List.map_nil] at ov
    simp (maxSteps := 1000000) (disch := omega) only [List.getElem_cons_zero, List.getElem_cons_succ, and_true, true_and, decide_true, decide_false, Bool.not_true, Bool.not_false, lZ40, lZ37, lZ32, lZ12, lZ26, lZ39, lZ22, lZ1, lZ4, lZ6, lZ0, lZ2, lZ5, lZ83, lZ34, lZ27, I.at, atL, atO, atP, lZ20, lZ18, lZ97, lZ98, evp, evs, lZ10, ↓reduceIte, Nat.reduceEqDiff, reduceCtorEq, Value.bool.injEq, Bool.false_eq_true, Bool.true_eq_false, lZ8, lZ7, lZ68, lZ43, lZ91, lZ81, lZ93, lZ82, lZ96, lZ46, lZ21, lZ67, lZ64, lZ49, lZ52, lZ59, lZ66, lZ95, lZ56, lZ76, lZ57, lZ61, lZ79, lZ50, lZ42, lZ84, lZ55, lZ33, lZ75, lZ77, lZ73, lZ36, bff, btf, Option.isNone_some, Option.isNone_none, lZ9, lZ16, lZ3, retV, lZ44, lZ30, lZ25, lZ23, lZ14, List.getD_cons_zero, List.getD_cons_succ, w_add, w_addl, w_sub, w_subl, w_mull, w_mulr, decide_eq_true, decide_eq_false, addr_add0, Nat.add_zero, Nat.zero_add, toI_int, ov.Xlen, List.length_nil, show decide (((0 : Nat) : Int) = 0) = true from rfl]
    exact B
  simp (maxSteps := 1000000) (disch := omega) only [List.getElem_cons_zero, List.getElem_cons_succ, and_true, true_and, decide_true, decide_false, Bool.not_true, Bool.not_false, lZ40, lZ37, lZ32, lZ12, lZ26, lZ39, lZ22, lZ1, lZ4, lZ6, lZ0, lZ2, lZ5, lZ83, lZ34, lZ27, I.at, atL, atO, atP, lZ20, lZ18, lZ97, lZ98, evp, evs, lZ10, ↓reduceIte, Nat.reduceEqDiff, reduceCtorEq, Value.bool.injEq, Bool.false_eq_true, Bool.true_eq_false, lZ8, lZ7, lZ68, lZ43, lZ91, lZ81, lZ93, lZ82, lZ96, lZ46, lZ21, lZ67, lZ64, lZ49, lZ52, lZ59, lZ66, lZ95, lZ56, lZ76, lZ57, lZ61, lZ79, lZ50, lZ42, lZ84, lZ55, lZ33, lZ75, lZ77, lZ73, lZ36, bff, btf, Option.isNone_some, Option.isNone_none, lZ9, lZ16, lZ3, retV, lZ44, lZ30, lZ25, lZ23, lZ14, List.getD_cons_zero, List.getD_cons_succ, w_add, w_addl, w_sub, w_subl, w_mull, w_mulr, decide_eq_true, decide_eq_false, addr_add0, Nat.add_zero, Nat.zero_add, toI_int]
  refine WP_dops ?_
  simp (maxSteps := 1000000) (disch := omega) only [lZ38, lZ28, lZ15, lZ29, lZ17, lZ72, lZ11, lZ24, lZ19, lZ92, List.mem_cons, List.not_mem_nil, or_self, List.getElem_cons_zero, List.getElem_cons_succ, or_false, false_or, false_implies, implies_true, forall_const, lZ60, lZ41, lZ78, lZ71, lZ86, lZ94, lZ99, lZ87, lZ13, lZ88, lZ65, lZ74, lZ45, lZ89, lZ58, lZ85, lZ69, lZ54, lZ62, lZ90, lZ47, lZ70, lZ31, lZ63, lZ80, lZ35, lZ48, lZ53, lZ51, List.getElem_cons_zero, List.getElem_cons_succ, and_true, true_and, decide_true, decide_false, Bool.not_true, Bool.not_false, lZ40, lZ37, lZ32, lZ12, lZ26, lZ39, lZ22, lZ1, lZ4, lZ6, lZ0, lZ2, lZ5, lZ83, lZ34, lZ27, I.at, atL, atO, atP, lZ20, lZ18, lZ97, lZ98, evp, evs, lZ10, ↓reduceIte, Nat.reduceEqDiff, reduceCtorEq, Value.bool.injEq, Bool.false_eq_true, Bool.true_eq_false, lZ8, lZ7, lZ68, lZ43, lZ91, lZ81, lZ93, lZ82, lZ96, lZ46, lZ21, lZ67, lZ64, lZ49, lZ52, lZ59, lZ66, lZ95, lZ56, lZ76, lZ57, lZ61, lZ79, lZ50, lZ42, lZ84, lZ55, lZ33, lZ75, lZ77, lZ73, lZ36, bff, btf, Option.isNone_some, Option.isNone_none, lZ9, lZ16, lZ3, retV, lZ44, lZ30, lZ25, lZ23, lZ14, List.getD_cons_zero, List.getD_cons_succ, w_add, w_addl, w_sub, w_subl, w_mull, w_mulr, decide_eq_true, decide_eq_false, addr_add0, Nat.add_zero, Nat.zero_add, toI_int]
  refine E_call0 ((culletlaw04_high_spec w19.drew P2 (Q2.map em8) hP2.drew (by omega)).mono ?_)
  rintro _ w20 ⟨rfl, rfl⟩
  rw [tln_em8]
  simp (maxSteps := 1000000) (disch := omega) only [lZ38, lZ28, lZ15, lZ29, lZ17, lZ72, lZ11, lZ24, lZ19, lZ92, List.mem_cons, List.not_mem_nil, or_self, List.getElem_cons_zero, List.getElem_cons_succ, or_false, false_or, false_implies, implies_true, forall_const, lZ60, lZ41, lZ78, lZ71, lZ86, lZ94, lZ99, lZ87, lZ13, lZ88, lZ65, lZ74, lZ45, lZ89, lZ58, lZ85, lZ69, lZ54, lZ62, lZ90, lZ47, lZ70, lZ31, lZ63, lZ80, lZ35, lZ48, lZ53, lZ51, List.getElem_cons_zero, List.getElem_cons_succ, and_true, true_and, decide_true, decide_false, Bool.not_true, Bool.not_false, lZ40, lZ37, lZ32, lZ12, lZ26, lZ39, lZ22, lZ1, lZ4, lZ6, lZ0, lZ2, lZ5, lZ83, lZ34, lZ27, I.at, atL, atO, atP, lZ20, lZ18, lZ97, lZ98, evp, evs, lZ10, ↓reduceIte, Nat.reduceEqDiff, reduceCtorEq, Value.bool.injEq, Bool.false_eq_true, Bool.true_eq_false, lZ8, lZ7, lZ68, lZ43, lZ91, lZ81, lZ93, lZ82, lZ96, lZ46, lZ21, lZ67, lZ64, lZ49, lZ52, lZ59, lZ66, lZ95, lZ56, lZ76, lZ57, lZ61, lZ79, lZ50, lZ42, lZ84, lZ55, lZ33, lZ75, lZ77, lZ73, lZ36, bff, btf, Option.isNone_some, Option.isNone_none, lZ9, lZ16, lZ3, retV, lZ44, lZ30, lZ25, lZ23, lZ14, List.getD_cons_zero, List.getD_cons_succ, w_add, w_addl, w_sub, w_subl, w_mull, w_mulr, decide_eq_true, decide_eq_false, addr_add0, Nat.add_zero, Nat.zero_add, toI_int]
  refine E_call0 ((culletlaw04_high_spec w19.drew P (Q.map em8) hP.drew (by omega)).mono ?_)
  rintro _ w20 ⟨rfl, rfl⟩
  rw [tln_em8, show ((tln Q : Int) - 1) = ((tln Q - 1 : Nat) : Int) by omega]
  have B := B.trans ((bel_drew w19).mono B.size)
  have hro := hro.drew
  have hb := hb.drew
  have hw := hw.drew
  have hr := hr.drew
  have hP := hP.drew
  have hP2 := hP2.drew
  have om := om.drew
  have ov := ov.drew
  generalize w19.drew = w19 at *
  by_cases hgf : tln Q2 < tln Q
  focus
    have y7 := y4 (by omega) hgf
    simp (maxSteps := 1000000) (disch := omega) only [lZ38, lZ28, lZ15, lZ29, lZ17, lZ72, lZ11, lZ24, lZ19, lZ92, List.mem_cons, List.not_mem_nil, or_self, List.getElem_cons_zero, List.getElem_cons_succ, or_false, false_or, false_implies, implies_true, forall_const, lZ60, lZ41, lZ78, lZ71, lZ86, lZ94, lZ99, lZ87, lZ13, lZ88, lZ65, lZ74, lZ45, lZ89, lZ58, lZ85, lZ69, lZ54, lZ62, lZ90, lZ47, lZ70, lZ31, lZ63, lZ80, lZ35, lZ48, lZ53, lZ51, List.getElem_cons_zero, List.getElem_cons_succ, and_true, true_and, decide_true, decide_false, Bool.not_true, Bool.not_false, lZ40, lZ37, lZ32, lZ12, lZ26, lZ39, lZ22, lZ1, lZ4, lZ6, lZ0, lZ2, lZ5, lZ83, lZ34, lZ27, I.at, atL, atO, atP, lZ20, lZ18, lZ97, lZ98, evp, evs, lZ10, ↓reduceIte, Nat.reduceEqDiff, reduceCtorEq, Value.bool.injEq, Bool.false_eq_true, Bool.true_eq_false, lZ8, lZ7, lZ68, lZ43, lZ91, lZ81, lZ93, lZ82, lZ96, lZ46, lZ21, lZ67, lZ64, lZ49, lZ52, lZ59, lZ66, lZ95, lZ56, lZ76, lZ57, lZ61, lZ79, lZ50, lZ42, lZ84, lZ55, lZ33, lZ75, lZ77, lZ73, lZ36, bff, btf, Option.isNone_some, Option.isNone_none, lZ9, lZ16, lZ3, retV, lZ44, lZ30, lZ25, lZ23, lZ14, List.getD_cons_zero, List.getD_cons_succ, w_add, w_addl, w_sub, w_subl, w_mull, w_mulr, decide_eq_true, decide_eq_false, addr_add0, Nat.add_zero, Nat.zero_add, toI_int, ov.Elen, lv]
    refine E_call0 ((culletlaw04_high_spec w19 P (Q.map em8) hP (by omega)).mono ?_)
    rintro _ w20 ⟨rfl, rfl⟩
    rw [tln_em8, show ((tln Q : Int) - 1) = ((tln Q - 1 : Nat) : Int) by omega]
    have zd : Fw.sees Try.prog (.ld (.c (.pointer (some ⟨bo, 5, none⟩)))) w20 (.int .i64 (D : Int)) = True := hro.sees (o := 5) (by simp) Try.prog
    simp (maxSteps := 1000000) (disch := omega) only [lZ38, lZ28, lZ15, lZ29, lZ17, lZ72, lZ11, lZ24, lZ19, lZ92, List.mem_cons, List.not_mem_nil, or_self, List.getElem_cons_zero, List.getElem_cons_succ, or_false, false_or, false_implies, implies_true, forall_const, lZ60, lZ41, lZ78, lZ71, lZ86, lZ94, lZ99, lZ87, lZ13, lZ88, lZ65, lZ74, lZ45, lZ89, lZ58, lZ85, lZ69, lZ54, lZ62, lZ90, lZ47, lZ70, lZ31, lZ63, lZ80, lZ35, lZ48, lZ53, lZ51, List.getElem_cons_zero, List.getElem_cons_succ, and_true, true_and, decide_true, decide_false, Bool.not_true, Bool.not_false, lZ40, lZ37, lZ32, lZ12, lZ26, lZ39, lZ22, lZ1, lZ4, lZ6, lZ0, lZ2, lZ5, lZ83, lZ34, lZ27, I.at, atL, atO, atP, lZ20, lZ18, lZ97, lZ98, evp, evs, lZ10, ↓reduceIte, Nat.reduceEqDiff, reduceCtorEq, Value.bool.injEq, Bool.false_eq_true, Bool.true_eq_false, lZ8, lZ7, lZ68, lZ43, lZ91, lZ81, lZ93, lZ82, lZ96, lZ46, lZ21, lZ67, lZ64, lZ49, lZ52, lZ59, lZ66, lZ95, lZ56, lZ76, lZ57, lZ61, lZ79, lZ50, lZ42, lZ84, lZ55, lZ33, lZ75, lZ77, lZ73, lZ36, bff, btf, Option.isNone_some, Option.isNone_none, lZ9, lZ16, lZ3, retV, lZ44, lZ30, lZ25, lZ23, lZ14, List.getD_cons_zero, List.getD_cons_succ, w_add, w_addl, w_sub, w_subl, w_mull, w_mulr, decide_eq_true, decide_eq_false, addr_add0, Nat.add_zero, Nat.zero_add, toI_int, hro.Eld (show 5 < _ by simp), zd]
    simp (maxSteps := 1000000) (disch := omega) only [lZ38, lZ28, lZ15, lZ29, lZ17, lZ72, lZ11, lZ24, lZ19, lZ92, List.mem_cons, List.not_mem_nil, or_self, List.getElem_cons_zero, List.getElem_cons_succ, or_false, false_or, false_implies, implies_true, forall_const, lZ60, lZ41, lZ78, lZ71, lZ86, lZ94, lZ99, lZ87, lZ13, lZ88, lZ65, lZ74, lZ45, lZ89, lZ58, lZ85, lZ69, lZ54, lZ62, lZ90, lZ47, lZ70, lZ31, lZ63, lZ80, lZ35, lZ48, lZ53, lZ51, List.getElem_cons_zero, List.getElem_cons_succ, and_true, true_and, decide_true, decide_false, Bool.not_true, Bool.not_false, lZ40, lZ37, lZ32, lZ12, lZ26, lZ39, lZ22, lZ1, lZ4, lZ6, lZ0, lZ2, lZ5, lZ83, lZ34, lZ27, I.at, atL, atO, atP, lZ20, lZ18, lZ97, lZ98, evp, evs, lZ10, ↓reduceIte, Nat.reduceEqDiff, reduceCtorEq, Value.bool.injEq, Bool.false_eq_true, Bool.true_eq_false, lZ8, lZ7, lZ68, lZ43, lZ91, lZ81, lZ93, lZ82, lZ96, lZ46, lZ21, lZ67, lZ64, lZ49, lZ52, lZ59, lZ66, lZ95, lZ56, lZ76, lZ57, lZ61, lZ79, lZ50, lZ42, lZ84, lZ55, lZ33, lZ75, lZ77, lZ73, lZ36, bff, btf, Option.isNone_some, Option.isNone_none, lZ9, lZ16, lZ3, retV, lZ44, lZ30, lZ25, lZ23, lZ14, List.getD_cons_zero, List.getD_cons_succ, w_add, w_addl, w_sub, w_subl, w_mull, w_mulr, decide_eq_true, decide_eq_false, addr_add0, Nat.add_zero, Nat.zero_add, toI_int, hr.Xldn (n := 2) rfl, hro.Xld (show 1 < _ by simp)]
  rotate_left
  focus
    simp (maxSteps := 1000000) (disch := omega) only [lZ38, lZ28, lZ15, lZ29, lZ17, lZ72, lZ11, lZ24, lZ19, lZ92, List.mem_cons, List.not_mem_nil, or_self, List.getElem_cons_zero, List.getElem_cons_succ, or_false, false_or, false_implies, implies_true, forall_const, lZ60, lZ41, lZ78, lZ71, lZ86, lZ94, lZ99, lZ87, lZ13, lZ88, lZ65, lZ74, lZ45, lZ89, lZ58, lZ85, lZ69, lZ54, lZ62, lZ90, lZ47, lZ70, lZ31, lZ63, lZ80, lZ35, lZ48, lZ53, lZ51, List.getElem_cons_zero, List.getElem_cons_succ, and_true, true_and, decide_true, decide_false, Bool.not_true, Bool.not_false, lZ40, lZ37, lZ32, lZ12, lZ26, lZ39, lZ22, lZ1, lZ4, lZ6, lZ0, lZ2, lZ5, lZ83, lZ34, lZ27, I.at, atL, atO, atP, lZ20, lZ18, lZ97, lZ98, evp, evs, lZ10, ↓reduceIte, Nat.reduceEqDiff, reduceCtorEq, Value.bool.injEq, Bool.false_eq_true, Bool.true_eq_false, lZ8, lZ7, lZ68, lZ43, lZ91, lZ81, lZ93, lZ82, lZ96, lZ46, lZ21, lZ67, lZ64, lZ49, lZ52, lZ59, lZ66, lZ95, lZ56, lZ76, lZ57, lZ61, lZ79, lZ50, lZ42, lZ84, lZ55, lZ33, lZ75, lZ77, lZ73, lZ36, bff, btf, Option.isNone_some, Option.isNone_none, lZ9, lZ16, lZ3, retV, lZ44, lZ30, lZ25, lZ23, lZ14, List.getD_cons_zero, List.getD_cons_succ, w_add, w_addl, w_sub, w_subl, w_mull, w_mulr, decide_eq_true, decide_eq_false, addr_add0, Nat.add_zero, Nat.zero_add, toI_int]
    simp (maxSteps := 1000000) (disch := omega) only [lZ38, lZ28, lZ15, lZ29, lZ17, lZ72, lZ11, lZ24, lZ19, lZ92, List.mem_cons, List.not_mem_nil, or_self, List.getElem_cons_zero, List.getElem_cons_succ, or_false, false_or, false_implies, implies_true, forall_const, lZ60, lZ41, lZ78, lZ71, lZ86, lZ94, lZ99, lZ87, lZ13, lZ88, lZ65, lZ74, lZ45, lZ89, lZ58, lZ85, lZ69, lZ54, lZ62, lZ90, lZ47, lZ70, lZ31, lZ63, lZ80, lZ35, lZ48, lZ53, lZ51, List.getElem_cons_zero, List.getElem_cons_succ, and_true, true_and, decide_true, decide_false, Bool.not_true, Bool.not_false, lZ40, lZ37, lZ32, lZ12, lZ26, lZ39, lZ22, lZ1, lZ4, lZ6, lZ0, lZ2, lZ5, lZ83, lZ34, lZ27, I.at, atL, atO, atP, lZ20, lZ18, lZ97, lZ98, evp, evs, lZ10, ↓reduceIte, Nat.reduceEqDiff, reduceCtorEq, Value.bool.injEq, Bool.false_eq_true, Bool.true_eq_false, lZ8, lZ7, lZ68, lZ43, lZ91, lZ81, lZ93, lZ82, lZ96, lZ46, lZ21, lZ67, lZ64, lZ49, lZ52, lZ59, lZ66, lZ95, lZ56, lZ76, lZ57, lZ61, lZ79, lZ50, lZ42, lZ84, lZ55, lZ33, lZ75, lZ77, lZ73, lZ36, bff, btf, Option.isNone_some, Option.isNone_none, lZ9, lZ16, lZ3, retV, lZ44, lZ30, lZ25, lZ23, lZ14, List.getD_cons_zero, List.getD_cons_succ, w_add, w_addl, w_sub, w_subl, w_mull, w_mulr, decide_eq_true, decide_eq_false, addr_add0, Nat.add_zero, Nat.zero_add, toI_int, hr.Xldn (n := 2) rfl, hro.Xld (show 1 < _ by simp)]
  all_goals
    refine X_call0 ((culletlaw04_Rings_gcd_b_spec _ rb rw P P2 _ _ hb hw hP hP2 (by omega) (by omega)).mono ?_)
    rw [lo8_map_em8, lo8_map_em8]
    rintro _ w21 ⟨hB, ⟨-, -, sg, g, rfl, og, tg, hd1, hd2, -, htop, lg⟩ | ⟨hn, -⟩⟩
    rotate_left
    · exact absurd ⟨by omega, by omega⟩ hn
    have og := og.sl
    have hro := hro.up hB
    have hb := hb.up hB
    have hw := hw.up hB
    have hr := hr.up hB
    have om := om.up hB
    have ov := ov.up hB
    have B := B.trans (hB.mono B.size)
    clear hB
    have lg' : (g.map em8).length = g.length := List.length_map _
    have hg0 : g ≠ [] := by
      rintro rfl
      obtain ⟨q, -, hq⟩ := hd1
      have h0 : tln Q = 0 := tln_of (k := 0) (by rw [hq, co_nil, Ps.mul_zero]; intro i _; rfl) (Or.inl rfl)
      omega
    have hg1 : 0 < g.length := List.length_pos_iff.2 hg0
    have hgt : tln g = g.length := (len_tr tg).symm
    simp (maxSteps := 1000000) (disch := omega) only [List.getElem_cons_zero, List.getElem_cons_succ, and_true, true_and, decide_true, decide_false, Bool.not_true, Bool.not_false, lZ40, lZ37, lZ32, lZ12, lZ26, lZ39, lZ22, lZ1, lZ4, lZ6, lZ0, lZ2, lZ5, lZ83, lZ34, lZ27, I.at, atL, atO, atP, lZ20, lZ18, lZ97, lZ98, evp, evs, lZ10, ↓reduceIte, Nat.reduceEqDiff, reduceCtorEq, Value.bool.injEq, Bool.false_eq_true, Bool.true_eq_false, lZ8, lZ7, lZ68, lZ43, lZ91, lZ81, lZ93, lZ82, lZ96, lZ46, lZ21, lZ67, lZ64, lZ49, lZ52, lZ59, lZ66, lZ95, lZ56, lZ76, lZ57, lZ61, lZ79, lZ50, lZ42, lZ84, lZ55, lZ33, lZ75, lZ77, lZ73, lZ36, bff, btf, Option.isNone_some, Option.isNone_none, lZ9, lZ16, lZ3, retV, lZ44, lZ30, lZ25, lZ23, lZ14, List.getD_cons_zero, List.getD_cons_succ, w_add, w_addl, w_sub, w_subl, w_mull, w_mulr, decide_eq_true, decide_eq_false, addr_add0, Nat.add_zero, Nat.zero_add, toI_int, og.Xlen, lg']
    simp (maxSteps := 1000000) (disch := omega) only [List.getElem_cons_zero, List.getElem_cons_succ, and_true, true_and, decide_true, decide_false, Bool.not_true, Bool.not_false, lZ40, lZ37, lZ32, lZ12, lZ26, lZ39, lZ22, lZ1, lZ4, lZ6, lZ0, lZ2, lZ5, lZ83, lZ34, lZ27, I.at, atL, atO, atP, lZ20, lZ18, lZ97, lZ98, evp, evs, lZ10, ↓reduceIte, Nat.reduceEqDiff, reduceCtorEq, Value.bool.injEq, Bool.false_eq_true, Bool.true_eq_false, lZ8, lZ7, lZ68, lZ43, lZ91, lZ81, lZ93, lZ82, lZ96, lZ46, lZ21, lZ67, lZ64, lZ49, lZ52, lZ59, lZ66, lZ95, lZ56, lZ76, lZ57, lZ61, lZ79, lZ50, lZ42, lZ84, lZ55, lZ33, lZ75, lZ77, lZ73, lZ36, bff, btf, Option.isNone_some, Option.isNone_none, lZ9, lZ16, lZ3, retV, lZ44, lZ30, lZ25, lZ23, lZ14, List.getD_cons_zero, List.getD_cons_succ, w_add, w_addl, w_sub, w_subl, w_mull, w_mulr, decide_eq_true, decide_eq_false, addr_add0, Nat.add_zero, Nat.zero_add, toI_int, hr.Xldn (n := 2) rfl, hro.Xld (show 1 < _ by simp)]
    refine X_call0 ((culletlaw04_Rings_divMod_b_spec _ rb rw sm sg _ _ hb hw om og (by omega) (by omega)).mono ?_)
    rw [lo8_map_em8, lo8_map_em8]
    rintro _ w22 ⟨hB, ⟨-, -, hz, sq, sr, q, r, rfl, oq, or, tq, tr', hco, hrl, hql⟩ | ⟨-, -, h0, -⟩ | ⟨hn, -⟩⟩
    rotate_left
    · exact absurd h0 (by omega)
    · exact absurd ⟨by omega, by omega⟩ hn
    have or := or.sl
    have B := B.trans (hB.mono B.size)
    clear hB
    obtain rfl : r = [] := by
      obtain ⟨c, ⟨c', hc'⟩, he⟩ := (hp.eq ▸ (hd1.mul (Pol.of u)).add (hd2.mul (Pol.of v')) : Dv (co g) (co m))
      have hq2 : co (tr c') = c := by rw [tr_co, hc']
      exact (div_uniq (a := m) (b := g) tq tr' (tr_tr c') tr_nil hco (by rw [hq2, co_nil, Ps.add_zero]; exact he) hrl (by simp; omega)).2
    simp (maxSteps := 1000000) (disch := omega) only [List.getElem_cons_zero, List.getElem_cons_succ, and_true, true_and, decide_true, decide_false, Bool.not_true, Bool.not_false, lZ40, lZ37, lZ32, lZ12, lZ26, lZ39, lZ22, lZ1, lZ4, lZ6, lZ0, lZ2, lZ5, lZ83, lZ34, lZ27, I.at, atL, atO, atP, lZ20, lZ18, lZ97, lZ98, evp, evs, lZ10, ↓reduceIte, Nat.reduceEqDiff, reduceCtorEq, Value.bool.injEq, Bool.false_eq_true, Bool.true_eq_false, lZ8, lZ7, lZ68, lZ43, lZ91, lZ81, lZ93, lZ82, lZ96, lZ46, lZ21, lZ67, lZ64, lZ49, lZ52, lZ59, lZ66, lZ95, lZ56, lZ76, lZ57, lZ61, lZ79, lZ50, lZ42, lZ84, lZ55, lZ33, lZ75, lZ77, lZ73, lZ36, bff, btf, Option.isNone_some, Option.isNone_none, lZ9, lZ16, lZ3, retV, lZ44, lZ30, lZ25, lZ23, lZ14, List.getD_cons_zero, List.getD_cons_succ, w_add, w_addl, w_sub, w_subl, w_mull, w_mulr, decide_eq_true, decide_eq_false, addr_add0, Nat.add_zero, Nat.zero_add, toI_int, or.Xlen, List.map_nil, List.length_nil, show decide (((0 : Nat) : Int) = 0) = true from rfl]
    exact B
end Go.Proofs.Ytcdagkcchfibjaa.Fw
