import Derived.Test.YtcbjabnnokjnpaaProg
import Derived.Test.YtcbjabnnokjnpaaFwTM
import Derived.Test.YtcbjabnnokjnpaaSH16iM
set_option linter.all false
set_option linter.unusedVariables false
set_option linter.unusedSimpArgs false
set_option maxRecDepth 100000
set_option maxHeartbeats 1000000
namespace Go.Proofs.Ytcbjabnnokjnpaa.Fw
open Go Go.Fw Go.Proofs
attribute [local irreducible] stepI
def c_culletlaw16_ShapeMemory : C := .seq (.ops [⟨0, (some 2), none, .box 32 (.t 0), []⟩, ⟨1, (some 4), none, .mov (.c (.bool false)), []⟩]) (.seq (.seq (.ops [⟨0, (some 40), none, .call (.c (.func (.func 13) #[] #[])) [], []⟩, ⟨1, (some 41), none, .un .not (.t 40), []⟩]) (.ite (.t 41) (.seq (.ops [⟨0, (some 4), none, .mov (.c (.bool false)), []⟩]) .ret) .skip)) (.seq (.dops [⟨0, (some 42), none, .fad 0 (.t 2), []⟩, ⟨1, (some 43), none, .ld (.t 42), []⟩, ⟨2, (some 44), none, .fad 1 (.t 2), []⟩, ⟨3, (some 45), none, .ld (.t 44), []⟩, ⟨4, (some 46), none, .fad 2 (.t 2), []⟩, ⟨5, (some 47), none, .ld (.t 46), []⟩, ⟨6, (some 5), none, .mov (.t 43), []⟩, ⟨7, (some 6), none, .mov (.t 45), []⟩, ⟨8, (some 7), none, .mov (.t 47), []⟩]) (.seq (.seq (.ops [⟨0, (some 48), none, .mov (.t 1), []⟩, ⟨1, (some 49), none, .len (.t 48), []⟩, ⟨2, (some 50), none, .bin .gtr (.t 49) (.c (.int .i64 64)), []⟩, ⟨3, (some 51), none, .mov (.t 50), []⟩, ⟨4, (some 52), (some (51, false)), .mov (.t 6), []⟩, ⟨5, (some 53), (some (51, false)), .bin .gtr (.t 52) (.c (.int .i64 40)), []⟩, ⟨6, (some 54), none, .pick (.t 51) (.c (.bool true)) (.t 53), []⟩, ⟨7, (some 55), none, .mov (.t 54), []⟩, ⟨8, (some 56), (some (55, false)), .mov (.t 7), []⟩, ⟨9, (some 57), (some (55, false)), .bin .gtr (.t 56) (.c (.int .i64 40)), []⟩, ⟨10, (some 58), none, .pick (.t 55) (.c (.bool true)) (.t 57), []⟩, ⟨11, (some 59), none, .mov (.t 58), []⟩, ⟨12, (some 60), (some (59, false)), .mov (.t 5), []⟩, ⟨13, (some 61), (some (59, false)), .mov (.t 6), []⟩, ⟨14, (some 62), (some (59, false)), .mov (.t 7), []⟩, ⟨15, (some 63), (some (59, false)), .call (.c (.func (.func 20) #[] #[])) [.t 60, .t 61, .t 62], []⟩, ⟨16, (some 64), (some (59, false)), .bin .neq (.t 63) (.c (.int .i64 0)), []⟩, ⟨17, (some 65), none, .pick (.t 59) (.c (.bool true)) (.t 64), []⟩, ⟨18, (some 66), none, .mov (.t 65), []⟩, ⟨19, (some 67), (some (66, false)), .mov (.t 1), []⟩, ⟨20, (some 68), (some (66, false)), .len (.t 67), []⟩, ⟨21, (some 69), (some (66, false)), .bin .eql (.t 68) (.c (.int .i64 0)), []⟩, ⟨22, (some 70), none, .pick (.t 66) (.c (.bool true)) (.t 69), []⟩]) (.ite (.t 70) (.seq (.ops [⟨0, (some 4), none, .mov (.c (.bool true)), []⟩]) .ret) .skip)) (.seq (.ops [⟨0, (some 71), none, .bsl 5 0 [.int .u8 0] [], []⟩, ⟨1, (some 72), none, .mov (.t 1), []⟩, ⟨2, (some 73), none, .app 5 1 [.int .u8 0] (.t 71) (.t 72), []⟩, ⟨3, (some 74), none, .bsl 5 8 [.int .u8 0] [(0, (1, .c (.int .u8 201))), (1, (1, .c (.int .u8 202))), (2, (1, .c (.int .u8 203))), (3, (1, .c (.int .u8 204))), (4, (1, .c (.int .u8 205))), (5, (1, .c (.int .u8 206))), (6, (1, .c (.int .u8 207))), (7, (1, .c (.int .u8 208)))], []⟩, ⟨4, (some 75), none, .app 5 1 [.int .u8 0] (.t 73) (.t 74), []⟩, ⟨5, (some 8), none, .mov (.t 75), []⟩]) (.seq (.ops [⟨0, (some 76), none, .mov (.t 8), []⟩, ⟨1, (some 77), none, .mov (.t 1), []⟩, ⟨2, (some 78), none, .len (.t 77), []⟩, ⟨3, (some 79), none, .slc 1 (.t 76) none (some (.t 78)) none, []⟩, ⟨4, (some 9), none, .mov (.t 79), []⟩]) (.seq (.ops [⟨0, (some 80), none, .bsl 5 0 [.int .u8 0] [], []⟩, ⟨1, (some 81), none, .mov (.t 8), []⟩, ⟨2, (some 82), none, .app 5 1 [.int .u8 0] (.t 80) (.t 81), []⟩, ⟨3, (some 10), none, .mov (.t 82), []⟩]) (.seq (.ops [⟨0, (some 84), none, .mov (.t 5), []⟩, ⟨1, (some 85), none, .mov (.t 6), []⟩, ⟨2, (some 86), none, .mov (.t 7), []⟩, ⟨3, (some 87), none, .mov (.t 1), []⟩, ⟨4, (some 88), none, .call (.c (.func (.func 21) #[] #[])) [.t 84, .t 85, .t 86, .t 87], []⟩, ⟨5, (some 83), none, .mov (.t 88), []⟩, ⟨6, (some 89), none, .ext (.t 83) 0, []⟩, ⟨7, (some 90), none, .ext (.t 83) 1, []⟩, ⟨8, (some 11), none, .mov (.t 89), []⟩, ⟨9, (some 12), none, .mov (.t 90), []⟩]) (.seq (.ops [⟨0, (some 92), none, .mov (.t 5), []⟩, ⟨1, (some 93), none, .mov (.t 6), []⟩, ⟨2, (some 94), none, .mov (.t 7), []⟩, ⟨3, (some 95), none, .mov (.t 9), []⟩, ⟨4, (some 96), none, .call (.c (.func (.func 12) #[] #[])) [.t 92, .t 93, .t 94, .t 95], []⟩, ⟨5, (some 91), none, .mov (.t 96), []⟩, ⟨6, (some 97), none, .ext (.t 91) 0, []⟩, ⟨7, (some 98), none, .ext (.t 91) 1, []⟩, ⟨8, (some 13), none, .mov (.t 97), []⟩, ⟨9, (some 14), none, .mov (.t 98), []⟩]) (.seq (.ops [⟨0, (some 100), none, .mov (.t 5), []⟩, ⟨1, (some 101), none, .mov (.t 6), []⟩, ⟨2, (some 102), none, .mov (.t 7), []⟩, ⟨3, (some 103), none, .mov (.t 9), []⟩, ⟨4, (some 104), none, .call (.c (.func (.func 12) #[] #[])) [.t 100, .t 101, .t 102, .t 103], []⟩, ⟨5, (some 99), none, .mov (.t 104), []⟩, ⟨6, (some 105), none, .ext (.t 99) 0, []⟩, ⟨7, (some 106), none, .ext (.t 99) 1, []⟩, ⟨8, (some 15), none, .mov (.t 105), []⟩, ⟨9, (some 16), none, .mov (.t 106), []⟩]) (.seq (.seq (.ops [⟨0, (some 107), none, .mov (.t 13), []⟩, ⟨1, (some 108), none, .mov (.t 11), []⟩, ⟨2, (some 109), none, .call (.c (.func (.func 22) #[] #[])) [.t 107, .t 108], []⟩, ⟨3, (some 110), none, .un .not (.t 109), []⟩, ⟨4, (some 111), none, .mov (.t 110), []⟩, ⟨5, (some 112), (some (111, false)), .mov (.t 15), []⟩, ⟨6, (some 113), (some (111, false)), .mov (.t 11), []⟩, ⟨7, (some 114), (some (111, false)), .call (.c (.func (.func 22) #[] #[])) [.t 112, .t 113], []⟩, ⟨8, (some 115), (some (111, false)), .un .not (.t 114), []⟩, ⟨9, (some 116), none, .pick (.t 111) (.c (.bool true)) (.t 115), []⟩, ⟨10, (some 117), none, .mov (.t 116), []⟩, ⟨11, (some 118), (some (117, false)), .mov (.t 8), []⟩, ⟨12, (some 119), (some (117, false)), .mov (.t 10), []⟩, ⟨13, (some 120), (some (117, false)), .call (.c (.func (.func 19) #[] #[])) [.t 118, .t 119], []⟩, ⟨14, (some 121), (some (117, false)), .un .not (.t 120), []⟩, ⟨15, (some 122), none, .pick (.t 117) (.c (.bool true)) (.t 121), []⟩]) (.ite (.t 122) (.seq (.ops [⟨0, (some 4), none, .mov (.c (.bool false)), []⟩]) .ret) .skip)) (.seq (.ops [⟨0, (some 124), none, .mov (.t 5), []⟩, ⟨1, (some 125), none, .mov (.t 6), []⟩, ⟨2, (some 126), none, .mov (.t 7), []⟩, ⟨3, (some 127), none, .mov (.t 13), []⟩, ⟨4, (some 128), none, .mov (.t 1), []⟩, ⟨5, (some 129), none, .len (.t 128), []⟩, ⟨6, (some 130), none, .call (.c (.func (.func 18) #[] #[])) [.t 124, .t 125, .t 126, .t 127, .t 129], []⟩, ⟨7, (some 123), none, .mov (.t 130), []⟩, ⟨8, (some 131), none, .ext (.t 123) 0, []⟩, ⟨9, (some 132), none, .ext (.t 123) 1, []⟩, ⟨10, (some 17), none, .mov (.t 131), []⟩, ⟨11, (some 18), none, .mov (.t 132), []⟩]) (.seq (.ops [⟨0, (some 134), none, .mov (.t 5), []⟩, ⟨1, (some 135), none, .mov (.t 6), []⟩, ⟨2, (some 136), none, .mov (.t 7), []⟩, ⟨3, (some 137), none, .mov (.t 13), []⟩, ⟨4, (some 138), none, .mov (.t 1), []⟩, ⟨5, (some 139), none, .len (.t 138), []⟩, ⟨6, (some 140), none, .call (.c (.func (.func 18) #[] #[])) [.t 134, .t 135, .t 136, .t 137, .t 139], []⟩, ⟨7, (some 133), none, .mov (.t 140), []⟩, ⟨8, (some 141), none, .ext (.t 133) 0, []⟩, ⟨9, (some 142), none, .ext (.t 133) 1, []⟩, ⟨10, (some 19), none, .mov (.t 141), []⟩, ⟨11, (some 20), none, .mov (.t 142), []⟩]) (.seq (.seq (.ops [⟨0, (some 143), none, .mov (.t 17), []⟩, ⟨1, (some 144), none, .mov (.t 1), []⟩, ⟨2, (some 145), none, .call (.c (.func (.func 19) #[] #[])) [.t 143, .t 144], []⟩, ⟨3, (some 146), none, .un .not (.t 145), []⟩, ⟨4, (some 147), none, .mov (.t 146), []⟩, ⟨5, (some 148), (some (147, false)), .mov (.t 19), []⟩, ⟨6, (some 149), (some (147, false)), .mov (.t 1), []⟩, ⟨7, (some 150), (some (147, false)), .call (.c (.func (.func 19) #[] #[])) [.t 148, .t 149], []⟩, ⟨8, (some 151), (some (147, false)), .un .not (.t 150), []⟩, ⟨9, (some 152), none, .pick (.t 147) (.c (.bool true)) (.t 151), []⟩, ⟨10, (some 153), none, .mov (.t 152), []⟩, ⟨11, (some 154), (some (153, false)), .mov (.t 13), []⟩, ⟨12, (some 155), (some (153, false)), .mov (.t 11), []⟩, ⟨13, (some 156), (some (153, false)), .call (.c (.func (.func 22) #[] #[])) [.t 154, .t 155], []⟩, ⟨14, (some 157), (some (153, false)), .un .not (.t 156), []⟩, ⟨15, (some 158), none, .pick (.t 153) (.c (.bool true)) (.t 157), []⟩]) (.ite (.t 158) (.seq (.ops [⟨0, (some 4), none, .mov (.c (.bool false)), []⟩]) .ret) .skip)) (.seq (.seq (.ops [⟨0, (some 21), none, .mov (.c (.int .i64 0)), []⟩]) (.block 0 (.loop (.seq (.seq (.ops [⟨0, (some 159), none, .mov (.t 21), []⟩, ⟨1, (some 160), none, .mov (.t 9), []⟩, ⟨2, (some 161), none, .len (.t 160), []⟩, ⟨3, (some 162), none, .bin .lss (.t 159) (.t 161), []⟩]) (.ite (.t 162) .skip (.exit 0))) (.seq (.block 1 (.ops [⟨0, (some 165), none, .mov (.t 9), []⟩, ⟨1, (some 166), none, .mov (.t 21), []⟩, ⟨2, (some 167), none, .mov (.t 9), []⟩, ⟨3, (some 168), none, .mov (.t 21), []⟩, ⟨4, (some 169), none, .ixs 1 (.t 167) (.t 168), []⟩, ⟨5, (some 170), none, .ld (.t 169), []⟩, ⟨6, (some 171), none, .bin .mul (.t 170) (.c (.int .u8 3)), []⟩, ⟨7, (some 172), none, .bin .add (.t 171) (.c (.int .u8 1)), []⟩, ⟨8, (some 173), none, .ixs 1 (.t 165) (.t 166), []⟩, ⟨9, none, none, .st (.t 173) (.t 172), []⟩])) (.ops [⟨0, (some 163), none, .mov (.t 21), []⟩, ⟨1, (some 164), none, .bin .add (.t 163) (.c (.int .i64 1)), []⟩, ⟨2, (some 21), none, .mov (.t 164), []⟩])))))) (.seq (.ops [⟨0, (some 174), none, .bsl 5 0 [.int .u8 0] [], []⟩, ⟨1, (some 175), none, .mov (.t 8), []⟩, ⟨2, (some 176), none, .app 5 1 [.int .u8 0] (.t 174) (.t 175), []⟩, ⟨3, (some 22), none, .mov (.t 176), []⟩]) (.seq (.ops [⟨0, (some 178), none, .mov (.t 5), []⟩, ⟨1, (some 179), none, .mov (.t 6), []⟩, ⟨2, (some 180), none, .mov (.t 7), []⟩, ⟨3, (some 181), none, .mov (.t 9), []⟩, ⟨4, (some 182), none, .call (.c (.func (.func 21) #[] #[])) [.t 178, .t 179, .t 180, .t 181], []⟩, ⟨5, (some 177), none, .mov (.t 182), []⟩, ⟨6, (some 183), none, .ext (.t 177) 0, []⟩, ⟨7, (some 184), none, .ext (.t 177) 1, []⟩, ⟨8, (some 23), none, .mov (.t 183), []⟩, ⟨9, (some 24), none, .mov (.t 184), []⟩]) (.seq (.ops [⟨0, (some 186), none, .mov (.t 5), []⟩, ⟨1, (some 187), none, .mov (.t 6), []⟩, ⟨2, (some 188), none, .mov (.t 7), []⟩, ⟨3, (some 189), none, .mov (.t 9), []⟩, ⟨4, (some 190), none, .call (.c (.func (.func 12) #[] #[])) [.t 186, .t 187, .t 188, .t 189], []⟩, ⟨5, (some 185), none, .mov (.t 190), []⟩, ⟨6, (some 191), none, .ext (.t 185) 0, []⟩, ⟨7, (some 192), none, .ext (.t 185) 1, []⟩, ⟨8, (some 25), none, .mov (.t 191), []⟩, ⟨9, (some 26), none, .mov (.t 192), []⟩]) (.seq (.seq (.ops [⟨0, (some 193), none, .mov (.t 25), []⟩, ⟨1, (some 194), none, .mov (.t 23), []⟩, ⟨2, (some 195), none, .call (.c (.func (.func 22) #[] #[])) [.t 193, .t 194], []⟩, ⟨3, (some 196), none, .un .not (.t 195), []⟩, ⟨4, (some 197), none, .mov (.t 196), []⟩, ⟨5, (some 198), (some (197, false)), .mov (.t 13), []⟩, ⟨6, (some 199), (some (197, false)), .mov (.t 11), []⟩, ⟨7, (some 200), (some (197, false)), .call (.c (.func (.func 22) #[] #[])) [.t 198, .t 199], []⟩, ⟨8, (some 201), (some (197, false)), .un .not (.t 200), []⟩, ⟨9, (some 202), none, .pick (.t 197) (.c (.bool true)) (.t 201), []⟩, ⟨10, (some 203), none, .mov (.t 202), []⟩, ⟨11, (some 204), (some (203, false)), .mov (.t 15), []⟩, ⟨12, (some 205), (some (203, false)), .mov (.t 11), []⟩, ⟨13, (some 206), (some (203, false)), .call (.c (.func (.func 22) #[] #[])) [.t 204, .t 205], []⟩, ⟨14, (some 207), (some (203, false)), .un .not (.t 206), []⟩, ⟨15, (some 208), none, .pick (.t 203) (.c (.bool true)) (.t 207), []⟩, ⟨16, (some 209), none, .mov (.t 208), []⟩, ⟨17, (some 210), (some (209, false)), .mov (.t 17), []⟩, ⟨18, (some 211), (some (209, false)), .mov (.t 1), []⟩, ⟨19, (some 212), (some (209, false)), .call (.c (.func (.func 19) #[] #[])) [.t 210, .t 211], []⟩, ⟨20, (some 213), (some (209, false)), .un .not (.t 212), []⟩, ⟨21, (some 214), none, .pick (.t 209) (.c (.bool true)) (.t 213), []⟩, ⟨22, (some 215), none, .mov (.t 214), []⟩, ⟨23, (some 216), (some (215, false)), .mov (.t 8), []⟩, ⟨24, (some 217), (some (215, false)), .mov (.t 22), []⟩, ⟨25, (some 218), (some (215, false)), .call (.c (.func (.func 19) #[] #[])) [.t 216, .t 217], []⟩, ⟨26, (some 219), (some (215, false)), .un .not (.t 218), []⟩, ⟨27, (some 220), none, .pick (.t 215) (.c (.bool true)) (.t 219), []⟩]) (.ite (.t 220) (.seq (.ops [⟨0, (some 4), none, .mov (.c (.bool false)), []⟩]) .ret) .skip)) (.seq (.seq (.ops [⟨0, (some 27), none, .mov (.c (.int .i64 0)), []⟩]) (.block 2 (.loop (.seq (.seq (.ops [⟨0, (some 221), none, .mov (.t 27), []⟩, ⟨1, (some 222), none, .mov (.t 6), []⟩, ⟨2, (some 223), none, .bin .lss (.t 221) (.t 222), []⟩]) (.ite (.t 223) .skip (.exit 2))) (.seq (.block 3 (.seq (.ops [⟨0, (some 28), none, .mov (.c (.int .i64 0)), []⟩]) (.block 4 (.loop (.seq (.seq (.ops [⟨0, (some 226), none, .mov (.t 28), []⟩, ⟨1, (some 227), none, .mov (.t 13), []⟩, ⟨2, (some 228), none, .mov (.t 27), []⟩, ⟨3, (some 229), none, .ixs 1 (.t 227) (.t 228), []⟩, ⟨4, (some 230), none, .ld (.t 229), []⟩, ⟨5, (some 231), none, .len (.t 230), []⟩, ⟨6, (some 232), none, .bin .lss (.t 226) (.t 231), []⟩]) (.ite (.t 232) .skip (.exit 4))) (.seq (.block 5 (.dops [⟨0, (some 235), none, .mov (.t 13), []⟩, ⟨1, (some 236), none, .mov (.t 27), []⟩, ⟨2, (some 237), none, .ixs 1 (.t 235) (.t 236), []⟩, ⟨3, (some 238), none, .ld (.t 237), []⟩, ⟨4, (some 239), none, .mov (.t 28), []⟩, ⟨5, (some 240), none, .mov (.t 25), []⟩, ⟨6, (some 241), none, .mov (.t 27), []⟩, ⟨7, (some 242), none, .ixs 1 (.t 240) (.t 241), []⟩, ⟨8, (some 243), none, .ld (.t 242), []⟩, ⟨9, (some 244), none, .mov (.t 28), []⟩, ⟨10, (some 245), none, .ixs 1 (.t 243) (.t 244), []⟩, ⟨11, (some 246), none, .ld (.t 245), []⟩, ⟨12, (some 247), none, .ixs 1 (.t 238) (.t 239), []⟩, ⟨13, none, none, .st (.t 247) (.t 246), []⟩])) (.ops [⟨0, (some 233), none, .mov (.t 28), []⟩, ⟨1, (some 234), none, .bin .add (.t 233) (.c (.int .i64 1)), []⟩, ⟨2, (some 28), none, .mov (.t 234), []⟩]))))))) (.ops [⟨0, (some 224), none, .mov (.t 27), []⟩, ⟨1, (some 225), none, .bin .add (.t 224) (.c (.int .i64 1)), []⟩, ⟨2, (some 27), none, .mov (.t 225), []⟩])))))) (.seq (.ops [⟨0, (some 249), none, .mov (.t 5), []⟩, ⟨1, (some 250), none, .mov (.t 6), []⟩, ⟨2, (some 251), none, .mov (.t 7), []⟩, ⟨3, (some 252), none, .mov (.t 13), []⟩, ⟨4, (some 253), none, .mov (.t 1), []⟩, ⟨5, (some 254), none, .len (.t 253), []⟩, ⟨6, (some 255), none, .call (.c (.func (.func 18) #[] #[])) [.t 249, .t 250, .t 251, .t 252, .t 254], []⟩, ⟨7, (some 248), none, .mov (.t 255), []⟩, ⟨8, (some 256), none, .ext (.t 248) 0, []⟩, ⟨9, (some 257), none, .ext (.t 248) 1, []⟩, ⟨10, (some 29), none, .mov (.t 256), []⟩, ⟨11, (some 30), none, .mov (.t 257), []⟩]) (.seq (.seq (.ops [⟨0, (some 258), none, .mov (.t 29), []⟩, ⟨1, (some 259), none, .mov (.t 9), []⟩, ⟨2, (some 260), none, .call (.c (.func (.func 19) #[] #[])) [.t 258, .t 259], []⟩, ⟨3, (some 261), none, .un .not (.t 260), []⟩, ⟨4, (some 262), none, .mov (.t 261), []⟩, ⟨5, (some 263), (some (262, false)), .mov (.t 17), []⟩, ⟨6, (some 264), (some (262, false)), .mov (.t 1), []⟩, ⟨7, (some 265), (some (262, false)), .call (.c (.func (.func 19) #[] #[])) [.t 263, .t 264], []⟩, ⟨8, (some 266), (some (262, false)), .un .not (.t 265), []⟩, ⟨9, (some 267), none, .pick (.t 262) (.c (.bool true)) (.t 266), []⟩, ⟨10, (some 268), none, .mov (.t 267), []⟩, ⟨11, (some 269), (some (268, false)), .mov (.t 19), []⟩, ⟨12, (some 270), (some (268, false)), .mov (.t 1), []⟩, ⟨13, (some 271), (some (268, false)), .call (.c (.func (.func 19) #[] #[])) [.t 269, .t 270], []⟩, ⟨14, (some 272), (some (268, false)), .un .not (.t 271), []⟩, ⟨15, (some 273), none, .pick (.t 268) (.c (.bool true)) (.t 272), []⟩]) (.ite (.t 273) (.seq (.ops [⟨0, (some 4), none, .mov (.c (.bool false)), []⟩]) .ret) .skip)) (.seq (.ops [⟨0, (some 274), none, .mov (.t 17), []⟩, ⟨1, (some 275), none, .mov (.t 19), []⟩, ⟨2, (some 276), none, .mov (.t 29), []⟩, ⟨3, (some 277), none, .bsl 27 3 [.slice none 0 0] [(0, (1, .t 274)), (1, (1, .t 275)), (2, (1, .t 276))], []⟩, ⟨4, (some 278), none, .mov (.t 13), []⟩, ⟨5, (some 279), none, .app 27 24 [.slice none 0 0] (.t 277) (.t 278), []⟩, ⟨6, (some 280), none, .mov (.t 15), []⟩, ⟨7, (some 281), none, .app 27 24 [.slice none 0 0] (.t 279) (.t 280), []⟩, ⟨8, (some 282), none, .mov (.t 25), []⟩, ⟨9, (some 283), none, .app 27 24 [.slice none 0 0] (.t 281) (.t 282), []⟩, ⟨10, (some 31), none, .mov (.t 283), []⟩]) (.seq (.seq (.ops [⟨0, (some 284), none, .mov (.t 31), []⟩, ⟨1, (some 285), none, .call (.c (.func (.func 23) #[] #[])) [.t 284], []⟩, ⟨2, (some 286), none, .un .not (.t 285), []⟩, ⟨3, (some 287), none, .mov (.t 286), []⟩, ⟨4, (some 288), (some (287, false)), .mov (.t 8), []⟩, ⟨5, (some 289), (some (287, false)), .mov (.t 22), []⟩, ⟨6, (some 290), (some (287, false)), .call (.c (.func (.func 19) #[] #[])) [.t 288, .t 289], []⟩, ⟨7, (some 291), (some (287, false)), .un .not (.t 290), []⟩, ⟨8, (some 292), none, .pick (.t 287) (.c (.bool true)) (.t 291), []⟩]) (.ite (.t 292) (.seq (.ops [⟨0, (some 4), none, .mov (.c (.bool false)), []⟩]) .ret) .skip)) (.seq (.ops [⟨0, (some 293), none, .mov (.t 13), []⟩, ⟨1, (some 294), none, .ixs 1 (.t 293) (.c (.int .i64 0)), []⟩, ⟨2, none, none, .st (.t 294) (.c (.slice none 0 0)), []⟩]) (.seq (.ops [⟨0, (some 296), none, .mov (.t 5), []⟩, ⟨1, (some 297), none, .mov (.t 6), []⟩, ⟨2, (some 298), none, .mov (.t 7), []⟩, ⟨3, (some 299), none, .mov (.t 13), []⟩, ⟨4, (some 300), none, .call (.c (.func (.func 24) #[] #[])) [.t 296, .t 297, .t 298, .t 299], []⟩, ⟨5, (some 295), none, .mov (.t 300), []⟩, ⟨6, (some 301), none, .ext (.t 295) 0, []⟩, ⟨7, (some 302), none, .ext (.t 295) 1, []⟩, ⟨8, (some 303), none, .ext (.t 295) 2, []⟩, ⟨9, (some 32), none, .mov (.t 301), []⟩, ⟨10, (some 33), none, .mov (.t 302), []⟩, ⟨11, (some 34), none, .mov (.t 303), []⟩]) (.seq (.ops [⟨0, (some 305), none, .mov (.t 5), []⟩, ⟨1, (some 306), none, .mov (.t 6), []⟩, ⟨2, (some 307), none, .mov (.t 7), []⟩, ⟨3, (some 308), none, .mov (.t 13), []⟩, ⟨4, (some 309), none, .call (.c (.func (.func 24) #[] #[])) [.t 305, .t 306, .t 307, .t 308], []⟩, ⟨5, (some 304), none, .mov (.t 309), []⟩, ⟨6, (some 310), none, .ext (.t 304) 0, []⟩, ⟨7, (some 311), none, .ext (.t 304) 1, []⟩, ⟨8, (some 312), none, .ext (.t 304) 2, []⟩, ⟨9, (some 35), none, .mov (.t 310), []⟩, ⟨10, (some 36), none, .mov (.t 311), []⟩, ⟨11, (some 37), none, .mov (.t 312), []⟩]) (.seq (.ops [⟨0, (some 313), none, .mov (.t 33), []⟩, ⟨1, (some 314), none, .bsl 3 4 [.int .i64 0] [(0, (1, .c (.int .i64 7))), (1, (1, .c (.int .i64 7))), (2, (1, .c (.int .i64 7))), (3, (1, .c (.int .i64 7)))], []⟩, ⟨2, (some 315), none, .app 3 8 [.int .i64 0] (.t 313) (.t 314), []⟩, ⟨3, (some 38), none, .mov (.t 315), []⟩]) (.seq (.ops [⟨0, (some 316), none, .mov (.t 36), []⟩, ⟨1, (some 317), none, .bsl 3 4 [.int .i64 0] [(0, (1, .c (.int .i64 9))), (1, (1, .c (.int .i64 9))), (2, (1, .c (.int .i64 9))), (3, (1, .c (.int .i64 9)))], []⟩, ⟨2, (some 318), none, .app 3 8 [.int .i64 0] (.t 316) (.t 317), []⟩, ⟨3, (some 39), none, .mov (.t 318), []⟩]) (.seq (.ops [⟨0, (some 319), none, .mov (.t 33), []⟩, ⟨1, (some 320), none, .mov (.t 36), []⟩, ⟨2, (some 321), none, .call (.c (.func (.func 25) #[] #[])) [.t 319, .t 320], []⟩, ⟨3, (some 322), none, .mov (.t 321), []⟩, ⟨4, (some 323), (some (322, true)), .mov (.t 38), []⟩, ⟨5, (some 324), (some (322, true)), .mov (.t 38), []⟩, ⟨6, (some 325), (some (322, true)), .len (.t 324), []⟩, ⟨7, (some 326), (some (322, true)), .bin .sub (.t 325) (.c (.int .i64 1)), []⟩, ⟨8, (some 327), (some (322, true)), .ixs 1 (.t 323) (.t 326), []⟩, ⟨9, (some 328), (some (322, true)), .ld (.t 327), []⟩, ⟨10, (some 329), (some (322, true)), .bin .eql (.t 328) (.c (.int .i64 7)), []⟩, ⟨11, (some 330), none, .pick (.t 322) (.t 329) (.c (.bool false)), []⟩, ⟨12, (some 331), none, .mov (.t 330), []⟩, ⟨13, (some 332), (some (331, true)), .mov (.t 39), []⟩, ⟨14, (some 333), (some (331, true)), .mov (.t 39), []⟩, ⟨15, (some 334), (some (331, true)), .len (.t 333), []⟩, ⟨16, (some 335), (some (331, true)), .bin .sub (.t 334) (.c (.int .i64 1)), []⟩, ⟨17, (some 336), (some (331, true)), .ixs 1 (.t 332) (.t 335), []⟩, ⟨18, (some 337), (some (331, true)), .ld (.t 336), []⟩, ⟨19, (some 338), (some (331, true)), .bin .eql (.t 337) (.c (.int .i64 9)), []⟩, ⟨20, (some 339), none, .pick (.t 331) (.t 338) (.c (.bool false)), []⟩, ⟨21, (some 4), none, .mov (.t 339), []⟩]) .ret)))))))))))))))))))))))))))))
attribute [irreducible] c_culletlaw16_ShapeMemory
theorem run_culletlaw16_ShapeMemory {args : List Value} {w : World} {K : Value → World → Prop} (hn : args.length ≤ 340) (h : WP Try.prog c_culletlaw16_ShapeMemory (endQ [.t 4] K) (initT args) w) : CallV Try.prog 7 args w K :=
  call_of follows Try.func7 (by kernel_rfl) (by kernel_rfl) hn h
end Go.Proofs.Ytcbjabnnokjnpaa.Fw
namespace Go.Proofs.Ytcbjabnnokjnpaa.Fw
open Go Go.Fw
theorem u8_elx (n : Int) : ∃ y : El 8, IntKind.u8.wrap n = (y.v.toNat : Int) := by
  have h1 : 0 ≤ n % 256 := Int.emod_nonneg _ (by decide)
  have h2 : n % 256 < 256 := Int.emod_lt_of_pos _ (by decide)
  refine ⟨m8 (n % 256).toNat, ?_⟩
  rw [m8_v _ (by omega)]
  have e : IntKind.u8.wrap n = n % 256 := by
    show (if (false && decide (n % 256 ≥ 128)) = true then n % 256 - 256 else n % 256) = _
    rfl
  rw [e]; omega
def mk8 : List (El 8) := [⟨201⟩, ⟨202⟩, ⟨203⟩, ⟨204⟩, ⟨205⟩, ⟨206⟩, ⟨207⟩, ⟨208⟩]
theorem mk8_len : mk8.length = 8 := rfl
theorem fill3h (h0 h1 h2 : Hd) : fillL (repL [.slice none 0 0] 3) [(0, 1, Cell.v h0), (1, 1, Cell.v h1), (2, 1, Cell.v h2)] = some ([h0, h1, h2].map Cell.v) := by kernel_rfl
set_option maxHeartbeats 40000000 in
theorem culletlaw16_ShapeMemory_spec (w : World) (f k m : Int) (s : Value) (D : List (El 8)) (h : Sl w s D) (hb : D.length ≤ 140737488351232) :
    CallV Try.prog 7 [.agg #[.int .i64 f, .int .i64 k, .int .i64 m], s] w fun v w' => v = .bool true ∧ RowKit.Below w.heap.size w w' := by
  have dt : ∀ e : Int, decide (e = e) = true := fun e => decide_eq_true rfl
  have h00 := h
  refine run_culletlaw16_ShapeMemory (by simp) ?_
  simp only [c_culletlaw16_ShapeMemory, WS, List.getElem_cons_zero, List.getElem_cons_succ, Option.isNone_some, Option.isNone_none, List.getD_cons_zero, List.getD_cons_succ, I.at, atL, atO, atP, evp, evs, retV, ↓reduceIte, Nat.reduceEqDiff, reduceCtorEq]
  refine X_box fun b w1 hro hlb hB => ?_
  have hro : Row w1 b [.int .i64 f, .int .i64 k, .int .i64 m] := hro
  have B := hB
  have h := h.up hB
  clear hB hlb
  simp (maxSteps := 1000000) (disch := omega) only [WS, List.getElem_cons_zero, List.getElem_cons_succ, Option.isNone_some, Option.isNone_none, List.getD_cons_zero, List.getD_cons_succ, I.at, atL, atO, atP, evp, evs, retV, ↓reduceIte, Nat.reduceEqDiff, reduceCtorEq, AS]
  refine X_call0 ((culletlaw16_awake_spec w1).mono ?_)
  rintro _ w2 ⟨rfl, hB⟩
  have h := h.up hB
  have hro := hro.up hB
  have B := B.trans (hB.mono B.size)
  clear hB
  simp (maxSteps := 1000000) (disch := omega) only [WS, List.getElem_cons_zero, List.getElem_cons_succ, Option.isNone_some, Option.isNone_none, List.getD_cons_zero, List.getD_cons_succ, I.at, atL, atO, atP, evp, evs, retV, ↓reduceIte, Nat.reduceEqDiff, reduceCtorEq, AS]
  refine WP_dops ?_
  have hr0 := hro.drew
  simp (maxSteps := 1000000) (disch := omega) only [ES, List.mem_cons, List.not_mem_nil, implies_true, forall_const, WS, List.getElem_cons_zero, List.getElem_cons_succ, Option.isNone_some, Option.isNone_none, List.getD_cons_zero, List.getD_cons_succ, I.at, atL, atO, atP, evp, evs, retV, ↓reduceIte, Nat.reduceEqDiff, reduceCtorEq, AS, hr0.Eld (show 0 < _ by simp), hr0.Eld (show 1 < _ by simp), hr0.Eld (show 2 < _ by simp)]
  have B := B.trans ((bel_drew w2).mono B.size)
  have h := h.drew
  clear hro hr0
  generalize w2.drew = w3 at *
  by_cases hn2 : 64 < D.length
  · simp (maxSteps := 1000000) (disch := omega) only [WS, List.getElem_cons_zero, List.getElem_cons_succ, Option.isNone_some, Option.isNone_none, List.getD_cons_zero, List.getD_cons_succ, I.at, atL, atO, atP, evp, evs, retV, ↓reduceIte, Nat.reduceEqDiff, reduceCtorEq, AS, h.Xlen]
    exact B
  by_cases hk2 : 40 < k
  · simp (maxSteps := 1000000) (disch := omega) only [WS, List.getElem_cons_zero, List.getElem_cons_succ, Option.isNone_some, Option.isNone_none, List.getD_cons_zero, List.getD_cons_succ, I.at, atL, atO, atP, evp, evs, retV, ↓reduceIte, Nat.reduceEqDiff, reduceCtorEq, AS, h.Xlen]
    exact B
  by_cases hm2 : 40 < m
  · simp (maxSteps := 1000000) (disch := omega) only [WS, List.getElem_cons_zero, List.getElem_cons_succ, Option.isNone_some, Option.isNone_none, List.getD_cons_zero, List.getD_cons_succ, I.at, atL, atO, atP, evp, evs, retV, ↓reduceIte, Nat.reduceEqDiff, reduceCtorEq, AS, h.Xlen]
    exact B
  simp (maxSteps := 1000000) (disch := omega) only [WS, List.getElem_cons_zero, List.getElem_cons_succ, Option.isNone_some, Option.isNone_none, List.getD_cons_zero, List.getD_cons_succ, I.at, atL, atO, atP, evp, evs, retV, ↓reduceIte, Nat.reduceEqDiff, reduceCtorEq, AS, h.Xlen]
  refine X_call0 ((culletref16_Params_spec w3 f k m).mono ?_)
  rintro _ w4 ⟨rfl, rfl⟩
  by_cases hp : prm f k m = 0
  rotate_left
  · simp (maxSteps := 1000000) (disch := omega) only [WS, List.getElem_cons_zero, List.getElem_cons_succ, Option.isNone_some, Option.isNone_none, List.getD_cons_zero, List.getD_cons_succ, I.at, atL, atO, atP, evp, evs, retV, ↓reduceIte, Nat.reduceEqDiff, reduceCtorEq, AS]
    exact B
  by_cases hn1 : D.length = 0
  · simp (maxSteps := 1000000) (disch := omega) only [WS, List.getElem_cons_zero, List.getElem_cons_succ, Option.isNone_some, Option.isNone_none, List.getD_cons_zero, List.getD_cons_succ, I.at, atL, atO, atP, evp, evs, retV, ↓reduceIte, Nat.reduceEqDiff, reduceCtorEq, AS, h.Xlen, hp, dt]
    exact B
  obtain ⟨hk1, -, hm1, -⟩ := prm_ok hp
  obtain ⟨K, rfl⟩ : ∃ K : Nat, k = (K : Int) := ⟨k.toNat, by omega⟩
  obtain ⟨M, rfl⟩ : ∃ M : Nat, m = (M : Int) := ⟨m.toNat, by omega⟩
  have hK : K ≤ 40 := by omega
  have hM : M ≤ 40 := by omega
  have hD1 : 1 ≤ D.length := by omega
  have hD2 : D.length ≤ 64 := by omega
  clear hb hn2 hk2 hm2 hn1
  have hl := lnS_rng (f := f) (k := K) (n := D.length) (by omega) hD1
  have q4 := B.size
  simp (maxSteps := 1000000) (disch := omega) only [WS, List.getElem_cons_zero, List.getElem_cons_succ, Option.isNone_some, Option.isNone_none, List.getD_cons_zero, List.getD_cons_succ, I.at, atL, atO, atP, evp, evs, retV, ↓reduceIte, Nat.reduceEqDiff, reduceCtorEq, AS, h.Xlen, hp, dt]
  refine X_bsl (zs := ([] : List (El 8))) (by rfl) (by rfl) fun p1 w5 o1 hB => ?_
  have h5 := h.up hB
  simp (maxSteps := 1000000) (disch := omega) only [WS, List.getElem_cons_zero, List.getElem_cons_succ, Option.isNone_some, Option.isNone_none, List.getD_cons_zero, List.getD_cons_succ, I.at, atL, atO, atP, evp, evs, retV, ↓reduceIte, Nat.reduceEqDiff, reduceCtorEq, AS]
  refine o1.Xapp2 h5 hB.size (by simp only [List.length_nil, maxBytes]; omega) (by simp only [List.length_nil]; omega) fun p2 w6 o2 hg => ?_
  rw [List.nil_append] at o2
  have hB := hg.below hB hB.size fun b hb => (o1.blk b hb).1
  clear hg o1 h5
  simp (maxSteps := 1000000) (disch := omega) only [WS, List.getElem_cons_zero, List.getElem_cons_succ, Option.isNone_some, Option.isNone_none, List.getD_cons_zero, List.getD_cons_succ, I.at, atL, atO, atP, evp, evs, retV, ↓reduceIte, Nat.reduceEqDiff, reduceCtorEq, AS]
  refine X_bsl (zs := mk8) (by rfl) (by rfl) fun p3 w7 o3 hB2 => ?_
  have o2 := o2.up hB2
  have hB := hB.trans (hB2.mono hB.size)
  clear hB2
  simp (maxSteps := 1000000) (disch := omega) only [WS, List.getElem_cons_zero, List.getElem_cons_succ, Option.isNone_some, Option.isNone_none, List.getD_cons_zero, List.getD_cons_succ, I.at, atL, atO, atP, evp, evs, retV, ↓reduceIte, Nat.reduceEqDiff, reduceCtorEq, AS]
  refine o2.Xapp2 o3.sl hB.size (by simp only [mk8_len, maxBytes]; omega) (by simp only [mk8_len]; omega) fun sv w8 ov hg => ?_
  have hB := hg.below hB hB.size fun b hb => (o2.blk b hb).1
  clear hg o2 o3
  have oV := Seg.of ov
  have q48 := hB.size
  clear ov
  have h := h.up hB
  have B := B.trans (hB.mono B.size)
  clear hB
  have lV : (D ++ mk8).length = D.length + 8 := by rw [List.length_append, mk8_len]
  have tV : (D ++ mk8).take D.length = D := by simp
  generalize D ++ mk8 = V at oV lV tV
  have hle : ∀ V : List (El 8), V.length = D.length + 8 → D.length ≤ V.length := fun V h => by omega
  have tkl : ∀ V : List (El 8), V.length = D.length + 8 → (V.take D.length).length = D.length := fun V h => by rw [List.length_take]; omega
  have osub : ∀ (u : World) (V : List (El 8)), V.length = D.length + 8 → Seg w4.heap.size w8.heap.size u sv V → Sl u (Fw.sub sv 0 D.length) (V.take D.length) := fun u V h1 h2 => (h2.own.sub0 (hle V h1)).sl
  simp (maxSteps := 1000000) (disch := omega) only [WS, List.getElem_cons_zero, List.getElem_cons_succ, Option.isNone_some, Option.isNone_none, List.getD_cons_zero, List.getD_cons_succ, I.at, atL, atO, atP, evp, evs, retV, ↓reduceIte, Nat.reduceEqDiff, reduceCtorEq, AS, h.Xlen, oV.sl.XslcHi (hle V lV)]
  refine X_bsl (zs := ([] : List (El 8))) (by rfl) (by rfl) fun p4 w9 o4 hB => ?_
  have oV9 := oV.up hB
  simp (maxSteps := 1000000) (disch := omega) only [WS, List.getElem_cons_zero, List.getElem_cons_succ, Option.isNone_some, Option.isNone_none, List.getD_cons_zero, List.getD_cons_succ, I.at, atL, atO, atP, evp, evs, retV, ↓reduceIte, Nat.reduceEqDiff, reduceCtorEq, AS]
  refine o4.Xapp2 oV9.sl hB.size (by simp only [List.length_nil, maxBytes]; omega) (by simp only [List.length_nil]; omega) fun sw w10 ow hg => ?_
  rw [List.nil_append] at ow
  have hB := hg.below hB hB.size fun b hb => (o4.blk b hb).1
  clear hg o4 oV9
  have oW := Seg.of ow
  have q810 := hB.size
  clear ow
  have h := h.up hB
  have oV := oV.up hB
  have B := B.trans (hB.mono B.size)
  clear hB
  simp (maxSteps := 1000000) (disch := omega) only [WS, List.getElem_cons_zero, List.getElem_cons_succ, Option.isNone_some, Option.isNone_none, List.getD_cons_zero, List.getD_cons_succ, I.at, atL, atO, atP, evp, evs, retV, ↓reduceIte, Nat.reduceEqDiff, reduceCtorEq, AS]
  refine X_call0 ((culletref16_Split_spec w10 f K M s D h hp hK hM hD1 hD2).mono ?_)
  rintro _ w11 ⟨hB, z0, hsW, rfl, lW, gW⟩
  have q1011 := hB.size
  have h := h.up hB
  have oV := oV.up hB
  have oW := oW.up hB
  have B := B.trans (hB.mono B.size)
  clear hB
  simp (maxSteps := 1000000) (disch := omega) only [WS, List.getElem_cons_zero, List.getElem_cons_succ, Option.isNone_some, Option.isNone_none, List.getD_cons_zero, List.getD_cons_succ, I.at, atL, atO, atP, evp, evs, retV, ↓reduceIte, Nat.reduceEqDiff, reduceCtorEq, AS]
  have hsub := osub _ V lV oV
  rw [tV] at hsub
  refine X_call0 ((shape_Split_spec w11 f K M _ D hsub hp hK hM hD1 hD2).mono ?_)
  rintro _ w12 ⟨hB, za, hsA, rfl, lA, gA⟩
  have q1112 := hB.size
  have h := h.up hB
  have oV := oV.up hB
  have oW := oW.up hB
  have gW := gW.up hB
  have hsub := hsub.up hB
  have B := B.trans (hB.mono B.size)
  clear hB
  simp (maxSteps := 1000000) (disch := omega) only [WS, List.getElem_cons_zero, List.getElem_cons_succ, Option.isNone_some, Option.isNone_none, List.getD_cons_zero, List.getD_cons_succ, I.at, atL, atO, atP, evp, evs, retV, ↓reduceIte, Nat.reduceEqDiff, reduceCtorEq, AS]
  refine X_call0 ((shape_Split_spec w12 f K M _ D hsub hp hK hM hD1 hD2).mono ?_)
  rintro _ w13 ⟨hB, zb, hsB, rfl, lB, gB⟩
  have q1213 := hB.size
  have h := h.up hB
  have oV := oV.up hB
  have oW := oW.up hB
  have gW := gW.up hB
  have gA := gA.up hB
  have B := B.trans (hB.mono B.size)
  clear hB
  clear hsub
  generalize hL : lnS f K D.length = l at *
  have hR : ∀ (D : List (El 8)) j, (shd D K l j).length ≤ 1000 := fun D j => by rw [shd_len]; omega
  simp (maxSteps := 1000000) (disch := omega) only [WS, List.getElem_cons_zero, List.getElem_cons_succ, Option.isNone_some, Option.isNone_none, List.getD_cons_zero, List.getD_cons_succ, I.at, atL, atO, atP, evp, evs, retV, ↓reduceIte, Nat.reduceEqDiff, reduceCtorEq, AS]
  refine X_call0 ((culletlaw16_same_spec w13 za z0 hsA hsW _ gA.top.sl gW.top.sl (by omega) (by omega) (fun j hj => (gA.row j hj).sl) (fun j hj => (gW.row j hj).sl) (fun j _ => hR D j)).mono ?_)
  rintro _ w14 ⟨rfl, hB⟩
  have q1314 := hB.size
  have h := h.up hB
  have oV := oV.up hB
  have oW := oW.up hB
  have gW := gW.up hB
  have gA := gA.up hB
  have gB := gB.up hB
  have B := B.trans (hB.mono B.size)
  clear hB
  simp (maxSteps := 1000000) (disch := omega) only [WS, List.getElem_cons_zero, List.getElem_cons_succ, Option.isNone_some, Option.isNone_none, List.getD_cons_zero, List.getD_cons_succ, I.at, atL, atO, atP, evp, evs, retV, ↓reduceIte, Nat.reduceEqDiff, reduceCtorEq, AS]
  refine X_call0 ((culletlaw16_same_spec w14 zb z0 hsB hsW _ gB.top.sl gW.top.sl (by omega) (by omega) (fun j hj => (gB.row j hj).sl) (fun j hj => (gW.row j hj).sl) (fun j _ => hR D j)).mono ?_)
  rintro _ w15 ⟨rfl, hB⟩
  have q1415 := hB.size
  have h := h.up hB
  have oV := oV.up hB
  have oW := oW.up hB
  have gW := gW.up hB
  have gA := gA.up hB
  have gB := gB.up hB
  have B := B.trans (hB.mono B.size)
  clear hB
  simp (maxSteps := 1000000) (disch := omega) only [WS, List.getElem_cons_zero, List.getElem_cons_succ, Option.isNone_some, Option.isNone_none, List.getD_cons_zero, List.getD_cons_succ, I.at, atL, atO, atP, evp, evs, retV, ↓reduceIte, Nat.reduceEqDiff, reduceCtorEq, AS]
  refine X_call0 ((culletlaw16_sameBytes_spec w15 sv sw V V oV.sl oW.sl (by omega) (by omega)).mono ?_)
  rintro _ w16 ⟨rfl, hk9⟩
  have hB := hk9.1
  rw [decide_eq_true rfl]
  have q1516 := hB.size
  have h := h.up hB
  have oV := oV.up hB
  have gW := gW.up hB
  have gA := gA.up hB
  have gB := gB.up hB
  have B := B.trans (hB.mono B.size)
  clear hB
  clear oW hk9
  simp (maxSteps := 1000000) (disch := omega) only [WS, List.getElem_cons_zero, List.getElem_cons_succ, Option.isNone_some, Option.isNone_none, List.getD_cons_zero, List.getD_cons_succ, I.at, atL, atO, atP, evp, evs, retV, ↓reduceIte, Nat.reduceEqDiff, reduceCtorEq, AS, h.Xlen]
  refine X_call0 ((shape_Join_spec w16 f K M D.length l za hsA _ gA.top.sl (fun j hj _ => (gA.row j hj).sl) (fun j _ => shd_len D K l j) lA hp hK hM hl.1 (by omega) hl.2.2.2 hl.2.2.1 hD2).mono ?_)
  rintro _ w17 ⟨hB, zx, rfl, oX⟩
  rw [jn_shd hl.1 hl.2.2.1] at oX
  have oX := Seg.of oX
  have q1617 := hB.size
  have h := h.up hB
  have oV := oV.up hB
  have gW := gW.up hB
  have gA := gA.up hB
  have gB := gB.up hB
  have B := B.trans (hB.mono B.size)
  clear hB
  simp (maxSteps := 1000000) (disch := omega) only [WS, List.getElem_cons_zero, List.getElem_cons_succ, Option.isNone_some, Option.isNone_none, List.getD_cons_zero, List.getD_cons_succ, I.at, atL, atO, atP, evp, evs, retV, ↓reduceIte, Nat.reduceEqDiff, reduceCtorEq, AS, h.Xlen]
  refine X_call0 ((shape_Join_spec w17 f K M D.length l za hsA _ gA.top.sl (fun j hj _ => (gA.row j hj).sl) (fun j _ => shd_len D K l j) lA hp hK hM hl.1 (by omega) hl.2.2.2 hl.2.2.1 hD2).mono ?_)
  rintro _ w18 ⟨hB, zy, rfl, oY⟩
  rw [jn_shd hl.1 hl.2.2.1] at oY
  have oY := Seg.of oY
  have q1718 := hB.size
  have h := h.up hB
  have oV := oV.up hB
  have gW := gW.up hB
  have gA := gA.up hB
  have gB := gB.up hB
  have oX := oX.up hB
  have B := B.trans (hB.mono B.size)
  clear hB
  simp (maxSteps := 1000000) (disch := omega) only [WS, List.getElem_cons_zero, List.getElem_cons_succ, Option.isNone_some, Option.isNone_none, List.getD_cons_zero, List.getD_cons_succ, I.at, atL, atO, atP, evp, evs, retV, ↓reduceIte, Nat.reduceEqDiff, reduceCtorEq, AS]
  refine X_call0 ((culletlaw16_sameBytes_spec w18 zx s D D oX.sl h (by omega) (by omega)).mono ?_)
  rintro _ w19 ⟨rfl, hk9⟩
  have hB := hk9.1
  rw [decide_eq_true rfl]
  have q1819 := hB.size
  have h := h.up hB
  have oV := oV.up hB
  have gW := gW.up hB
  have gA := gA.up hB
  have gB := gB.up hB
  have oX := oX.up hB
  have oY := oY.up hB
  have B := B.trans (hB.mono B.size)
  clear hB
  clear hk9
  simp (maxSteps := 1000000) (disch := omega) only [WS, List.getElem_cons_zero, List.getElem_cons_succ, Option.isNone_some, Option.isNone_none, List.getD_cons_zero, List.getD_cons_succ, I.at, atL, atO, atP, evp, evs, retV, ↓reduceIte, Nat.reduceEqDiff, reduceCtorEq, AS]
  refine X_call0 ((culletlaw16_sameBytes_spec w19 zy s D D oY.sl h (by omega) (by omega)).mono ?_)
  rintro _ w20 ⟨rfl, hk9⟩
  have hB := hk9.1
  rw [decide_eq_true rfl]
  have q1920 := hB.size
  have h := h.up hB
  have oV := oV.up hB
  have gW := gW.up hB
  have gA := gA.up hB
  have gB := gB.up hB
  have oX := oX.up hB
  have oY := oY.up hB
  have B := B.trans (hB.mono B.size)
  clear hB
  clear hk9
  simp (maxSteps := 1000000) (disch := omega) only [WS, List.getElem_cons_zero, List.getElem_cons_succ, Option.isNone_some, Option.isNone_none, List.getD_cons_zero, List.getD_cons_succ, I.at, atL, atO, atP, evp, evs, retV, ↓reduceIte, Nat.reduceEqDiff, reduceCtorEq, AS]
  refine X_call0 ((culletlaw16_same_spec w20 za z0 hsA hsW _ gA.top.sl gW.top.sl (by omega) (by omega) (fun j hj => (gA.row j hj).sl) (fun j hj => (gW.row j hj).sl) (fun j _ => hR D j)).mono ?_)
  rintro _ w21 ⟨rfl, hB⟩
  have q2021 := hB.size
  have h := h.up hB
  have oV := oV.up hB
  have gW := gW.up hB
  have gA := gA.up hB
  have gB := gB.up hB
  have oX := oX.up hB
  have oY := oY.up hB
  have B := B.trans (hB.mono B.size)
  clear hB
  simp (maxSteps := 1000000) (disch := omega) only [WS, List.getElem_cons_zero, List.getElem_cons_succ, Option.isNone_some, Option.isNone_none, List.getD_cons_zero, List.getD_cons_succ, I.at, atL, atO, atP, evp, evs, retV, ↓reduceIte, Nat.reduceEqDiff, reduceCtorEq, AS]
  -- the data are turned
  refine loop_of (fun t u => t 1 = s ∧ t 5 = .int .i64 f ∧ t 6 = .int .i64 (K : Int) ∧ t 7 = .int .i64 (M : Int) ∧ t 8 = sv ∧ t 9 = Fw.sub sv 0 D.length ∧ t 11 = z0 ∧ t 13 = za ∧ t 15 = zb ∧ t 17 = zx ∧ t 19 = zy ∧ RowKit.Below w.heap.size w u ∧ Out w4.heap.size w8.heap.size w21 u ∧ ∃ (i : Nat) (V : List (El 8)), t 21 = .int .i64 (i : Int) ∧ i ≤ D.length ∧ Seg w4.heap.size w8.heap.size u sv V ∧ V.length = D.length + 8)
    (fun t _ => D.length - (toI (t 21)).toNat) ⟨by simp only [WS, List.getElem_cons_zero, List.getElem_cons_succ, Option.isNone_some, Option.isNone_none, List.getD_cons_zero, List.getD_cons_succ, I.at, atL, atO, atP, evp, evs, retV, ↓reduceIte, Nat.reduceEqDiff, reduceCtorEq], by simp only [WS, List.getElem_cons_zero, List.getElem_cons_succ, Option.isNone_some, Option.isNone_none, List.getD_cons_zero, List.getD_cons_succ, I.at, atL, atO, atP, evp, evs, retV, ↓reduceIte, Nat.reduceEqDiff, reduceCtorEq], by simp only [WS, List.getElem_cons_zero, List.getElem_cons_succ, Option.isNone_some, Option.isNone_none, List.getD_cons_zero, List.getD_cons_succ, I.at, atL, atO, atP, evp, evs, retV, ↓reduceIte, Nat.reduceEqDiff, reduceCtorEq], by simp only [WS, List.getElem_cons_zero, List.getElem_cons_succ, Option.isNone_some, Option.isNone_none, List.getD_cons_zero, List.getD_cons_succ, I.at, atL, atO, atP, evp, evs, retV, ↓reduceIte, Nat.reduceEqDiff, reduceCtorEq], by simp only [WS, List.getElem_cons_zero, List.getElem_cons_succ, Option.isNone_some, Option.isNone_none, List.getD_cons_zero, List.getD_cons_succ, I.at, atL, atO, atP, evp, evs, retV, ↓reduceIte, Nat.reduceEqDiff, reduceCtorEq], by simp only [WS, List.getElem_cons_zero, List.getElem_cons_succ, Option.isNone_some, Option.isNone_none, List.getD_cons_zero, List.getD_cons_succ, I.at, atL, atO, atP, evp, evs, retV, ↓reduceIte, Nat.reduceEqDiff, reduceCtorEq], by simp only [WS, List.getElem_cons_zero, List.getElem_cons_succ, Option.isNone_some, Option.isNone_none, List.getD_cons_zero, List.getD_cons_succ, I.at, atL, atO, atP, evp, evs, retV, ↓reduceIte, Nat.reduceEqDiff, reduceCtorEq], by simp only [WS, List.getElem_cons_zero, List.getElem_cons_succ, Option.isNone_some, Option.isNone_none, List.getD_cons_zero, List.getD_cons_succ, I.at, atL, atO, atP, evp, evs, retV, ↓reduceIte, Nat.reduceEqDiff, reduceCtorEq], by simp only [WS, List.getElem_cons_zero, List.getElem_cons_succ, Option.isNone_some, Option.isNone_none, List.getD_cons_zero, List.getD_cons_succ, I.at, atL, atO, atP, evp, evs, retV, ↓reduceIte, Nat.reduceEqDiff, reduceCtorEq], by simp only [WS, List.getElem_cons_zero, List.getElem_cons_succ, Option.isNone_some, Option.isNone_none, List.getD_cons_zero, List.getD_cons_succ, I.at, atL, atO, atP, evp, evs, retV, ↓reduceIte, Nat.reduceEqDiff, reduceCtorEq], by simp only [WS, List.getElem_cons_zero, List.getElem_cons_succ, Option.isNone_some, Option.isNone_none, List.getD_cons_zero, List.getD_cons_succ, I.at, atL, atO, atP, evp, evs, retV, ↓reduceIte, Nat.reduceEqDiff, reduceCtorEq], B, Out.refl _ _ _, 0, V, rfl, by omega, oV, lV⟩ ?_
  clear B oV lV tV
  rintro t w22 ⟨t1, t5, t6, t7, t8, t9, t11, t13, t15, t17, t19, B, hO, i, V', t21, hi, oV, lV⟩
  by_cases hil : i < D.length
  · have iV : i < V'.length := by omega
    have hsub := osub _ V' lV oV
    have hel : elP (Fw.sub sv 0 D.length) i = elP sv i := by rw [elP_sub oV.sl (show 0 < D.length by omega) (hle V' lV), Nat.zero_add]
    have hix := hsub.Xix (k := .i64) (i := i) (by rw [tkl V' lV]; exact hil) Try.prog
    rw [hel] at hix
    obtain ⟨y, hy⟩ := u8_elx (IntKind.u8.wrap ((V'[i].v.toNat : Int) * 3) + 1)
    simp (maxSteps := 1000000) (disch := omega) only [WS, List.getElem_cons_zero, List.getElem_cons_succ, Option.isNone_some, Option.isNone_none, List.getD_cons_zero, List.getD_cons_succ, I.at, atL, atO, atP, evp, evs, retV, ↓reduceIte, Nat.reduceEqDiff, reduceCtorEq, AS, t1, t5, t6, t7, t8, t9, t11, t13, t15, t17, t19, t21, hsub.Xlen, tkl V' lV, hix, oV.sl.Xld iV, cell_e8, hy]
    refine oV.Xst iV y fun w23 c oV2 hg hc1 hc2 => ?_
    simp (maxSteps := 1000000) (disch := omega) only [WS, List.getElem_cons_zero, List.getElem_cons_succ, Option.isNone_some, Option.isNone_none, List.getD_cons_zero, List.getD_cons_succ, I.at, atL, atO, atP, evp, evs, retV, ↓reduceIte, Nat.reduceEqDiff, reduceCtorEq, AS, t1, t5, t6, t7, t8, t9, t11, t13, t15, t17, t19, t21]
    exact ⟨⟨B.grown hg B.size (fun b hb => by cases hb; omega), hO.grown hg hc1 hc2, i + 1, _, rfl, by omega, oV2, by rw [List.length_set]; exact lV⟩, by omega⟩
  obtain rfl : i = D.length := by omega
  have h := h00.up B
  have gW := gW.out hO (Or.inr (by omega))
  have gA := gA.out hO (Or.inr (by omega))
  have gB := gB.out hO (Or.inr (by omega))
  have oX := oX.out hO (Or.inr (by omega))
  have oY := oY.out hO (Or.inr (by omega))
  have q2122 := hO.sz
  have hsub := osub _ V' lV oV
  have lD := tkl V' lV
  generalize hD' : V'.take D.length = D' at hsub lD
  clear hO
  simp (maxSteps := 1000000) (disch := omega) only [WS, List.getElem_cons_zero, List.getElem_cons_succ, Option.isNone_some, Option.isNone_none, List.getD_cons_zero, List.getD_cons_succ, I.at, atL, atO, atP, evp, evs, retV, ↓reduceIte, Nat.reduceEqDiff, reduceCtorEq, AS, t1, t5, t6, t7, t8, t9, t11, t13, t15, t17, t19, t21, hsub.Xlen, lD]
  refine X_bsl (zs := ([] : List (El 8))) (by rfl) (by rfl) fun p4 w23 o4 hB => ?_
  have oV9 := oV.up hB
  simp (maxSteps := 1000000) (disch := omega) only [WS, List.getElem_cons_zero, List.getElem_cons_succ, Option.isNone_some, Option.isNone_none, List.getD_cons_zero, List.getD_cons_succ, I.at, atL, atO, atP, evp, evs, retV, ↓reduceIte, Nat.reduceEqDiff, reduceCtorEq, AS, t1, t5, t6, t7, t8, t9, t11, t13, t15, t17, t19]
  refine o4.Xapp2 oV9.sl hB.size (by simp only [List.length_nil, maxBytes]; omega) (by simp only [List.length_nil]; omega) fun st w24 ot hg => ?_
  rw [List.nil_append] at ot
  have hB := hg.below hB hB.size fun b hb => (o4.blk b hb).1
  clear hg o4 oV9
  have oT := Seg.of ot
  have q2224 := hB.size
  clear ot
  have h := h.up hB
  have oV := oV.up hB
  have gW := gW.up hB
  have gA := gA.up hB
  have gB := gB.up hB
  have oX := oX.up hB
  have oY := oY.up hB
  have hsub := hsub.up hB
  have B := B.trans (hB.mono B.size)
  clear hB
  simp (maxSteps := 1000000) (disch := omega) only [WS, List.getElem_cons_zero, List.getElem_cons_succ, Option.isNone_some, Option.isNone_none, List.getD_cons_zero, List.getD_cons_succ, I.at, atL, atO, atP, evp, evs, retV, ↓reduceIte, Nat.reduceEqDiff, reduceCtorEq, AS, t1, t5, t6, t7, t8, t9, t11, t13, t15, t17, t19]
  refine X_call0 ((culletref16_Split_spec w24 f K M _ D' hsub hp hK hM (by omega) (by omega)).mono ?_)
  rintro _ w25 ⟨hB, zl, hsL, rfl, lL, gL⟩
  have q2425 := hB.size
  have h := h.up hB
  have oV := oV.up hB
  have gW := gW.up hB
  have gA := gA.up hB
  have gB := gB.up hB
  have oX := oX.up hB
  have oY := oY.up hB
  have hsub := hsub.up hB
  have oT := oT.up hB
  have B := B.trans (hB.mono B.size)
  clear hB
  simp (maxSteps := 1000000) (disch := omega) only [WS, List.getElem_cons_zero, List.getElem_cons_succ, Option.isNone_some, Option.isNone_none, List.getD_cons_zero, List.getD_cons_succ, I.at, atL, atO, atP, evp, evs, retV, ↓reduceIte, Nat.reduceEqDiff, reduceCtorEq, AS, t1, t5, t6, t7, t8, t9, t11, t13, t15, t17, t19]
  refine X_call0 ((shape_Split_spec w25 f K M _ D' hsub hp hK hM (by omega) (by omega)).mono ?_)
  rintro _ w26 ⟨hB, zc, hsC, rfl, lC, gC⟩
  have q2526 := hB.size
  have h := h.up hB
  have oV := oV.up hB
  have gW := gW.up hB
  have gA := gA.up hB
  have gB := gB.up hB
  have oX := oX.up hB
  have oY := oY.up hB
  have hsub := hsub.up hB
  have oT := oT.up hB
  have gL := gL.up hB
  have B := B.trans (hB.mono B.size)
  clear hB
  rw [lD, hL] at gL gC
  simp (maxSteps := 1000000) (disch := omega) only [WS, List.getElem_cons_zero, List.getElem_cons_succ, Option.isNone_some, Option.isNone_none, List.getD_cons_zero, List.getD_cons_succ, I.at, atL, atO, atP, evp, evs, retV, ↓reduceIte, Nat.reduceEqDiff, reduceCtorEq, AS, t1, t5, t6, t7, t8, t9, t11, t13, t15, t17, t19]
  refine X_call0 ((culletlaw16_same_spec w26 zc zl hsC hsL _ gC.top.sl gL.top.sl (by omega) (by omega) (fun j hj => (gC.row j hj).sl) (fun j hj => (gL.row j hj).sl) (fun j _ => hR D' j)).mono ?_)
  rintro _ w27 ⟨rfl, hB⟩
  have q2627 := hB.size
  have h := h.up hB
  have oV := oV.up hB
  have gW := gW.up hB
  have gA := gA.up hB
  have gB := gB.up hB
  have oX := oX.up hB
  have oY := oY.up hB
  have hsub := hsub.up hB
  have oT := oT.up hB
  have gC := gC.up hB
  have B := B.trans (hB.mono B.size)
  clear hB
  clear gL
  simp (maxSteps := 1000000) (disch := omega) only [WS, List.getElem_cons_zero, List.getElem_cons_succ, Option.isNone_some, Option.isNone_none, List.getD_cons_zero, List.getD_cons_succ, I.at, atL, atO, atP, evp, evs, retV, ↓reduceIte, Nat.reduceEqDiff, reduceCtorEq, AS, t1, t5, t6, t7, t8, t9, t11, t13, t15, t17, t19]
  refine X_call0 ((culletlaw16_same_spec w27 za z0 hsA hsW _ gA.top.sl gW.top.sl (by omega) (by omega) (fun j hj => (gA.row j hj).sl) (fun j hj => (gW.row j hj).sl) (fun j _ => hR D j)).mono ?_)
  rintro _ w28 ⟨rfl, hB⟩
  have q2728 := hB.size
  have h := h.up hB
  have oV := oV.up hB
  have gW := gW.up hB
  have gA := gA.up hB
  have gB := gB.up hB
  have oX := oX.up hB
  have oY := oY.up hB
  have hsub := hsub.up hB
  have oT := oT.up hB
  have gC := gC.up hB
  have B := B.trans (hB.mono B.size)
  clear hB
  simp (maxSteps := 1000000) (disch := omega) only [WS, List.getElem_cons_zero, List.getElem_cons_succ, Option.isNone_some, Option.isNone_none, List.getD_cons_zero, List.getD_cons_succ, I.at, atL, atO, atP, evp, evs, retV, ↓reduceIte, Nat.reduceEqDiff, reduceCtorEq, AS, t1, t5, t6, t7, t8, t9, t11, t13, t15, t17, t19]
  refine X_call0 ((culletlaw16_same_spec w28 zb z0 hsB hsW _ gB.top.sl gW.top.sl (by omega) (by omega) (fun j hj => (gB.row j hj).sl) (fun j hj => (gW.row j hj).sl) (fun j _ => hR D j)).mono ?_)
  rintro _ w29 ⟨rfl, hB⟩
  have q2829 := hB.size
  have h := h.up hB
  have oV := oV.up hB
  have gA := gA.up hB
  have gB := gB.up hB
  have oX := oX.up hB
  have oY := oY.up hB
  have hsub := hsub.up hB
  have oT := oT.up hB
  have gC := gC.up hB
  have B := B.trans (hB.mono B.size)
  clear hB
  clear gW
  simp (maxSteps := 1000000) (disch := omega) only [WS, List.getElem_cons_zero, List.getElem_cons_succ, Option.isNone_some, Option.isNone_none, List.getD_cons_zero, List.getD_cons_succ, I.at, atL, atO, atP, evp, evs, retV, ↓reduceIte, Nat.reduceEqDiff, reduceCtorEq, AS, t1, t5, t6, t7, t8, t9, t11, t13, t15, t17, t19]
  refine X_call0 ((culletlaw16_sameBytes_spec w29 zx s D D oX.sl h (by omega) (by omega)).mono ?_)
  rintro _ w30 ⟨rfl, hk9⟩
  have hB := hk9.1
  rw [decide_eq_true rfl]
  have q2930 := hB.size
  have h := h.up hB
  have oV := oV.up hB
  have gA := gA.up hB
  have gB := gB.up hB
  have oX := oX.up hB
  have oY := oY.up hB
  have hsub := hsub.up hB
  have oT := oT.up hB
  have gC := gC.up hB
  have B := B.trans (hB.mono B.size)
  clear hB
  clear hk9
  simp (maxSteps := 1000000) (disch := omega) only [WS, List.getElem_cons_zero, List.getElem_cons_succ, Option.isNone_some, Option.isNone_none, List.getD_cons_zero, List.getD_cons_succ, I.at, atL, atO, atP, evp, evs, retV, ↓reduceIte, Nat.reduceEqDiff, reduceCtorEq, AS, t1, t5, t6, t7, t8, t9, t11, t13, t15, t17, t19]
  refine X_call0 ((culletlaw16_sameBytes_spec w30 sv st V' V' oV.sl oT.sl (by omega) (by omega)).mono ?_)
  rintro _ w31 ⟨rfl, hk9⟩
  have hB := hk9.1
  rw [decide_eq_true rfl]
  have q3031 := hB.size
  have h := h.up hB
  have oV := oV.up hB
  have gA := gA.up hB
  have gB := gB.up hB
  have oX := oX.up hB
  have oY := oY.up hB
  have hsub := hsub.up hB
  have oT := oT.up hB
  have gC := gC.up hB
  have B := B.trans (hB.mono B.size)
  clear hB
  clear hk9
  simp (maxSteps := 1000000) (disch := omega) only [WS, List.getElem_cons_zero, List.getElem_cons_succ, Option.isNone_some, Option.isNone_none, List.getD_cons_zero, List.getD_cons_succ, I.at, atL, atO, atP, evp, evs, retV, ↓reduceIte, Nat.reduceEqDiff, reduceCtorEq, AS, t1, t5, t6, t7, t8, t9, t11, t13, t15, t17, t19]
  -- the first shards take the others' bytes
  have gC31 := gC
  refine loop_of (fun t u => t 1 = s ∧ t 5 = .int .i64 f ∧ t 6 = .int .i64 (K : Int) ∧ t 7 = .int .i64 (M : Int) ∧ t 8 = sv ∧ t 9 = Fw.sub sv 0 D.length ∧ t 13 = za ∧ t 15 = zb ∧ t 17 = zx ∧ t 19 = zy ∧ t 22 = st ∧ t 25 = zc ∧ RowKit.Below w.heap.size w u ∧ Out w11.heap.size w12.heap.size w31 u ∧ ∃ (i : Nat) (R : Nat → List (El 8)), t 27 = .int .i64 (i : Int) ∧ i ≤ K ∧ Rg w11.heap.size w12.heap.size u za hsA R ∧ (∀ x, (R x).length = l) ∧ ∀ x, x < i → R x = shd D' K l x)
    (fun t _ => K - (toI (t 27)).toNat) ⟨by simp only [WS, List.getElem_cons_zero, List.getElem_cons_succ, Option.isNone_some, Option.isNone_none, List.getD_cons_zero, List.getD_cons_succ, I.at, atL, atO, atP, evp, evs, retV, ↓reduceIte, Nat.reduceEqDiff, reduceCtorEq]; exact t1, by simp only [WS, List.getElem_cons_zero, List.getElem_cons_succ, Option.isNone_some, Option.isNone_none, List.getD_cons_zero, List.getD_cons_succ, I.at, atL, atO, atP, evp, evs, retV, ↓reduceIte, Nat.reduceEqDiff, reduceCtorEq]; exact t5, by simp only [WS, List.getElem_cons_zero, List.getElem_cons_succ, Option.isNone_some, Option.isNone_none, List.getD_cons_zero, List.getD_cons_succ, I.at, atL, atO, atP, evp, evs, retV, ↓reduceIte, Nat.reduceEqDiff, reduceCtorEq]; exact t6, by simp only [WS, List.getElem_cons_zero, List.getElem_cons_succ, Option.isNone_some, Option.isNone_none, List.getD_cons_zero, List.getD_cons_succ, I.at, atL, atO, atP, evp, evs, retV, ↓reduceIte, Nat.reduceEqDiff, reduceCtorEq]; exact t7, by simp only [WS, List.getElem_cons_zero, List.getElem_cons_succ, Option.isNone_some, Option.isNone_none, List.getD_cons_zero, List.getD_cons_succ, I.at, atL, atO, atP, evp, evs, retV, ↓reduceIte, Nat.reduceEqDiff, reduceCtorEq]; exact t8, by simp only [WS, List.getElem_cons_zero, List.getElem_cons_succ, Option.isNone_some, Option.isNone_none, List.getD_cons_zero, List.getD_cons_succ, I.at, atL, atO, atP, evp, evs, retV, ↓reduceIte, Nat.reduceEqDiff, reduceCtorEq]; exact t9, by simp only [WS, List.getElem_cons_zero, List.getElem_cons_succ, Option.isNone_some, Option.isNone_none, List.getD_cons_zero, List.getD_cons_succ, I.at, atL, atO, atP, evp, evs, retV, ↓reduceIte, Nat.reduceEqDiff, reduceCtorEq]; exact t13, by simp only [WS, List.getElem_cons_zero, List.getElem_cons_succ, Option.isNone_some, Option.isNone_none, List.getD_cons_zero, List.getD_cons_succ, I.at, atL, atO, atP, evp, evs, retV, ↓reduceIte, Nat.reduceEqDiff, reduceCtorEq]; exact t15, by simp only [WS, List.getElem_cons_zero, List.getElem_cons_succ, Option.isNone_some, Option.isNone_none, List.getD_cons_zero, List.getD_cons_succ, I.at, atL, atO, atP, evp, evs, retV, ↓reduceIte, Nat.reduceEqDiff, reduceCtorEq]; exact t17, by simp only [WS, List.getElem_cons_zero, List.getElem_cons_succ, Option.isNone_some, Option.isNone_none, List.getD_cons_zero, List.getD_cons_succ, I.at, atL, atO, atP, evp, evs, retV, ↓reduceIte, Nat.reduceEqDiff, reduceCtorEq]; exact t19, by simp only [WS, List.getElem_cons_zero, List.getElem_cons_succ, Option.isNone_some, Option.isNone_none, List.getD_cons_zero, List.getD_cons_succ, I.at, atL, atO, atP, evp, evs, retV, ↓reduceIte, Nat.reduceEqDiff, reduceCtorEq], by simp only [WS, List.getElem_cons_zero, List.getElem_cons_succ, Option.isNone_some, Option.isNone_none, List.getD_cons_zero, List.getD_cons_succ, I.at, atL, atO, atP, evp, evs, retV, ↓reduceIte, Nat.reduceEqDiff, reduceCtorEq], B, Out.refl _ _ _, 0, _, rfl, by omega, gA, fun x => shd_len D K l x, fun x hx => by omega⟩ ?_
  clear B gA t1 t5 t6 t7 t8 t9 t11 t13 t15 t17 t19 t21
  rintro t w32 ⟨t1, t5, t6, t7, t8, t9, t13, t15, t17, t19, t22, t25, B, hO, i, R, t27, hi, gA, lR, hRd⟩
  by_cases hiK : i < K
  · have iA : i < hsA.length := by omega
    have iC : i < hsC.length := by omega
    simp (maxSteps := 1000000) (disch := omega) only [WS, List.getElem_cons_zero, List.getElem_cons_succ, Option.isNone_some, Option.isNone_none, List.getD_cons_zero, List.getD_cons_succ, I.at, atL, atO, atP, evp, evs, retV, ↓reduceIte, Nat.reduceEqDiff, reduceCtorEq, AS, t1, t5, t6, t7, t8, t9, t13, t15, t17, t19, t22, t25, t27]
    refine loop_of (fun t u => t 1 = s ∧ t 5 = .int .i64 f ∧ t 6 = .int .i64 (K : Int) ∧ t 7 = .int .i64 (M : Int) ∧ t 8 = sv ∧ t 9 = Fw.sub sv 0 D.length ∧ t 13 = za ∧ t 15 = zb ∧ t 17 = zx ∧ t 19 = zy ∧ t 22 = st ∧ t 25 = zc ∧ t 27 = .int .i64 (i : Int) ∧ RowKit.Below w.heap.size w u ∧ Out w11.heap.size w12.heap.size w31 u ∧ ∃ (j : Nat) (R : Nat → List (El 8)), t 28 = .int .i64 (j : Int) ∧ j ≤ l ∧ Rg w11.heap.size w12.heap.size u za hsA R ∧ (∀ x, (R x).length = l) ∧ (∀ x, x < i → R x = shd D' K l x) ∧ ∀ y, y < j → (co (R i)).c y = (co (shd D' K l i)).c y)
      (fun t _ => l - (toI (t 28)).toNat) ⟨by simp only [WS, List.getElem_cons_zero, List.getElem_cons_succ, Option.isNone_some, Option.isNone_none, List.getD_cons_zero, List.getD_cons_succ, I.at, atL, atO, atP, evp, evs, retV, ↓reduceIte, Nat.reduceEqDiff, reduceCtorEq]; exact t1, by simp only [WS, List.getElem_cons_zero, List.getElem_cons_succ, Option.isNone_some, Option.isNone_none, List.getD_cons_zero, List.getD_cons_succ, I.at, atL, atO, atP, evp, evs, retV, ↓reduceIte, Nat.reduceEqDiff, reduceCtorEq]; exact t5, by simp only [WS, List.getElem_cons_zero, List.getElem_cons_succ, Option.isNone_some, Option.isNone_none, List.getD_cons_zero, List.getD_cons_succ, I.at, atL, atO, atP, evp, evs, retV, ↓reduceIte, Nat.reduceEqDiff, reduceCtorEq]; exact t6, by simp only [WS, List.getElem_cons_zero, List.getElem_cons_succ, Option.isNone_some, Option.isNone_none, List.getD_cons_zero, List.getD_cons_succ, I.at, atL, atO, atP, evp, evs, retV, ↓reduceIte, Nat.reduceEqDiff, reduceCtorEq]; exact t7, by simp only [WS, List.getElem_cons_zero, List.getElem_cons_succ, Option.isNone_some, Option.isNone_none, List.getD_cons_zero, List.getD_cons_succ, I.at, atL, atO, atP, evp, evs, retV, ↓reduceIte, Nat.reduceEqDiff, reduceCtorEq]; exact t8, by simp only [WS, List.getElem_cons_zero, List.getElem_cons_succ, Option.isNone_some, Option.isNone_none, List.getD_cons_zero, List.getD_cons_succ, I.at, atL, atO, atP, evp, evs, retV, ↓reduceIte, Nat.reduceEqDiff, reduceCtorEq]; exact t9, by simp only [WS, List.getElem_cons_zero, List.getElem_cons_succ, Option.isNone_some, Option.isNone_none, List.getD_cons_zero, List.getD_cons_succ, I.at, atL, atO, atP, evp, evs, retV, ↓reduceIte, Nat.reduceEqDiff, reduceCtorEq]; exact t13, by simp only [WS, List.getElem_cons_zero, List.getElem_cons_succ, Option.isNone_some, Option.isNone_none, List.getD_cons_zero, List.getD_cons_succ, I.at, atL, atO, atP, evp, evs, retV, ↓reduceIte, Nat.reduceEqDiff, reduceCtorEq]; exact t15, by simp only [WS, List.getElem_cons_zero, List.getElem_cons_succ, Option.isNone_some, Option.isNone_none, List.getD_cons_zero, List.getD_cons_succ, I.at, atL, atO, atP, evp, evs, retV, ↓reduceIte, Nat.reduceEqDiff, reduceCtorEq]; exact t17, by simp only [WS, List.getElem_cons_zero, List.getElem_cons_succ, Option.isNone_some, Option.isNone_none, List.getD_cons_zero, List.getD_cons_succ, I.at, atL, atO, atP, evp, evs, retV, ↓reduceIte, Nat.reduceEqDiff, reduceCtorEq]; exact t19, by simp only [WS, List.getElem_cons_zero, List.getElem_cons_succ, Option.isNone_some, Option.isNone_none, List.getD_cons_zero, List.getD_cons_succ, I.at, atL, atO, atP, evp, evs, retV, ↓reduceIte, Nat.reduceEqDiff, reduceCtorEq]; exact t22, by simp only [WS, List.getElem_cons_zero, List.getElem_cons_succ, Option.isNone_some, Option.isNone_none, List.getD_cons_zero, List.getD_cons_succ, I.at, atL, atO, atP, evp, evs, retV, ↓reduceIte, Nat.reduceEqDiff, reduceCtorEq]; exact t25, by simp only [WS, List.getElem_cons_zero, List.getElem_cons_succ, Option.isNone_some, Option.isNone_none, List.getD_cons_zero, List.getD_cons_succ, I.at, atL, atO, atP, evp, evs, retV, ↓reduceIte, Nat.reduceEqDiff, reduceCtorEq]; exact t27, B, hO, 0, R, rfl, by omega, gA, lR, hRd, fun y hy => by omega⟩ ?_
    clear B hO gA lR hRd t1 t5 t6 t7 t8 t9 t13 t15 t17 t19 t22 t25 t27
    rintro t w33 ⟨t1, t5, t6, t7, t8, t9, t13, t15, t17, t19, t22, t25, t27, B, hO, j, R, t28, hj, gA, lR, hRd, hRj⟩
    have sA := gA.top.sl
    have rA := (gA.row i iA).sl
    by_cases hjl : j < l
    · have jR : j < (R i).length := by rw [lR]; exact hjl
      have gC := gC31.out hO (Or.inr (by omega))
      have jC : j < (shd D' K l i).length := by rw [shd_len]; exact hjl
      have sA1 := sA.drew
      have rA1 := rA.drew
      have sC1 := gC.top.sl.drew
      have rC1 := (gC.row i iC).sl.drew
      have gA1 := gA.up (bel_drew w33)
      simp (maxSteps := 1000000) (disch := omega) only [WS, List.getElem_cons_zero, List.getElem_cons_succ, Option.isNone_some, Option.isNone_none, List.getD_cons_zero, List.getD_cons_succ, I.at, atL, atO, atP, evp, evs, retV, ↓reduceIte, Nat.reduceEqDiff, reduceCtorEq, AS, t1, t5, t6, t7, t8, t9, t13, t15, t17, t19, t22, t25, t27, t28, sA.Xix iA, sA.Xld iA, rA.Xlen, lR]
      refine WP_dops ?_
      simp (maxSteps := 1000000) (disch := omega) only [ES, List.mem_cons, List.not_mem_nil, implies_true, forall_const, WS, List.getElem_cons_zero, List.getElem_cons_succ, Option.isNone_some, Option.isNone_none, List.getD_cons_zero, List.getD_cons_succ, I.at, atL, atO, atP, evp, evs, retV, ↓reduceIte, Nat.reduceEqDiff, reduceCtorEq, AS, t1, t5, t6, t7, t8, t9, t13, t15, t17, t19, t22, t25, t27, t28, sA1.Eix iA, sA1.Eld iA, sC1.Eix iC, sC1.Eld iC, rC1.Eix jC, rC1.Eld jC, cell_e8, rA1.Eix jR]
      refine gA1.Est iA jR (shd D' K l i)[j] fun w34 c gA2 hg hc1 hc2 => ?_
      have B34 := (B.trans ((bel_drew w33).mono B.size)).grown hg (Nat.le_trans B.size (bel_drew w33).size) fun b hb => by cases hb; omega
      have hO34 := (hO.below (bel_drew w33)).grown hg hc1 hc2
      simp (maxSteps := 1000000) (disch := omega) only [ES, List.mem_cons, List.not_mem_nil, implies_true, forall_const, WS, List.getElem_cons_zero, List.getElem_cons_succ, Option.isNone_some, Option.isNone_none, List.getD_cons_zero, List.getD_cons_succ, I.at, atL, atO, atP, evp, evs, retV, ↓reduceIte, Nat.reduceEqDiff, reduceCtorEq, AS, t1, t5, t6, t7, t8, t9, t13, t15, t17, t19, t22, t25, t27, t28]
      refine ⟨⟨B34, hO34, j + 1, _, rfl, by omega, gA2, fun x => ?_, fun x hx => ?_, fun y hy => ?_⟩, by omega⟩
      · by_cases hxi : x = i
        · subst hxi; rw [if_pos rfl, List.length_set]; exact lR x
        · rw [if_neg hxi]; exact lR x
      · rw [if_neg (by omega)]; exact hRd x hx
      · rw [if_pos rfl, co_set _ jR]
        by_cases hyj : y = j
        · subst hyj; rw [if_pos rfl, co_get _ jC]
        · rw [if_neg hyj]; exact hRj y (by omega)
    · simp (maxSteps := 1000000) (disch := omega) only [WS, List.getElem_cons_zero, List.getElem_cons_succ, Option.isNone_some, Option.isNone_none, List.getD_cons_zero, List.getD_cons_succ, I.at, atL, atO, atP, evp, evs, retV, ↓reduceIte, Nat.reduceEqDiff, reduceCtorEq, AS, t1, t5, t6, t7, t8, t9, t13, t15, t17, t19, t22, t25, t27, t28, sA.Xix iA, sA.Xld iA, rA.Xlen, lR]
      refine ⟨⟨B, hO, i + 1, R, rfl, by omega, gA, lR, fun x hx => ?_⟩, by omega⟩
      by_cases hxi : x = i
      · subst hxi
        exact co_ext (by rw [lR, shd_len]) (Ps.ext fun y => by
          by_cases hy : y < l
          · exact hRj y (by omega)
          · rw [co_dg (R x) y (by rw [lR]; omega), co_dg (shd D' K l x) y (by rw [shd_len]; omega)])
      · exact hRd x (by omega)
  have hiK2 : i = K := by omega
  rw [hiK2] at hRd t27
  have h := h00.up B
  have gB := gB.out hO (Or.inr (by omega))
  have gC := gC31.out hO (Or.inr (by omega))
  have oX := oX.out hO (Or.inr (by omega))
  have oY := oY.out hO (Or.inr (by omega))
  have oT := oT.out hO (Or.inr (by omega))
  have oV := oV.out hO (Or.inl (by omega))
  have q3132 := hO.sz
  have hsub := osub _ V' lV oV
  rw [hD'] at hsub
  clear hO gC31
  simp (maxSteps := 1000000) (disch := omega) only [WS, List.getElem_cons_zero, List.getElem_cons_succ, Option.isNone_some, Option.isNone_none, List.getD_cons_zero, List.getD_cons_succ, I.at, atL, atO, atP, evp, evs, retV, ↓reduceIte, Nat.reduceEqDiff, reduceCtorEq, AS, t1, t5, t6, t7, t8, t9, t13, t15, t17, t19, t22, t25, t27, h.Xlen]
  refine X_call0 ((shape_Join_spec w32 f K M D.length l za hsA R gA.top.sl (fun j hj _ => (gA.row j hj).sl) (fun j _ => lR j) lA hp hK hM hl.1 (by omega) hl.2.2.2 hl.2.2.1 hD2).mono ?_)
  rintro _ w33 ⟨hB, zz, rfl, oZ⟩
  rw [jn_congr hl.1 hl.2.2.1 hRd, ← lD, jn_shd hl.1 (by omega)] at oZ
  have oZ := Seg.of oZ
  have q3233 := hB.size
  have h := h.up hB
  have oV := oV.up hB
  have gA := gA.up hB
  have gB := gB.up hB
  have gC := gC.up hB
  have oX := oX.up hB
  have oY := oY.up hB
  have hsub := hsub.up hB
  have oT := oT.up hB
  have B := B.trans (hB.mono B.size)
  clear hB
  simp (maxSteps := 1000000) (disch := omega) only [WS, List.getElem_cons_zero, List.getElem_cons_succ, Option.isNone_some, Option.isNone_none, List.getD_cons_zero, List.getD_cons_succ, I.at, atL, atO, atP, evp, evs, retV, ↓reduceIte, Nat.reduceEqDiff, reduceCtorEq, AS, t1, t5, t6, t7, t8, t9, t13, t15, t17, t19, t22, t25]
  refine X_call0 ((culletlaw16_sameBytes_spec w33 zz _ D' D' oZ.sl hsub (by omega) (by omega)).mono ?_)
  rintro _ w34 ⟨rfl, hk9⟩
  have hB := hk9.1
  rw [decide_eq_true rfl]
  have q3334 := hB.size
  have h := h.up hB
  have oV := oV.up hB
  have gA := gA.up hB
  have gB := gB.up hB
  have gC := gC.up hB
  have oX := oX.up hB
  have oY := oY.up hB
  have oZ := oZ.up hB
  have oT := oT.up hB
  have B := B.trans (hB.mono B.size)
  clear hB
  clear hk9 hsub
  simp (maxSteps := 1000000) (disch := omega) only [WS, List.getElem_cons_zero, List.getElem_cons_succ, Option.isNone_some, Option.isNone_none, List.getD_cons_zero, List.getD_cons_succ, I.at, atL, atO, atP, evp, evs, retV, ↓reduceIte, Nat.reduceEqDiff, reduceCtorEq, AS, t1, t5, t6, t7, t8, t9, t13, t15, t17, t19, t22, t25]
  refine X_call0 ((culletlaw16_sameBytes_spec w34 zx s D D oX.sl h (by omega) (by omega)).mono ?_)
  rintro _ w35 ⟨rfl, hk9⟩
  have hB := hk9.1
  rw [decide_eq_true rfl]
  have q3435 := hB.size
  have h := h.up hB
  have oV := oV.up hB
  have gA := gA.up hB
  have gB := gB.up hB
  have gC := gC.up hB
  have oX := oX.up hB
  have oY := oY.up hB
  have oZ := oZ.up hB
  have oT := oT.up hB
  have B := B.trans (hB.mono B.size)
  clear hB
  clear hk9
  simp (maxSteps := 1000000) (disch := omega) only [WS, List.getElem_cons_zero, List.getElem_cons_succ, Option.isNone_some, Option.isNone_none, List.getD_cons_zero, List.getD_cons_succ, I.at, atL, atO, atP, evp, evs, retV, ↓reduceIte, Nat.reduceEqDiff, reduceCtorEq, AS, t1, t5, t6, t7, t8, t9, t13, t15, t17, t19, t22, t25]
  refine X_call0 ((culletlaw16_sameBytes_spec w35 zy s D D oY.sl h (by omega) (by omega)).mono ?_)
  rintro _ w36 ⟨rfl, hk9⟩
  have hB := hk9.1
  rw [decide_eq_true rfl]
  have q3536 := hB.size
  have oV := oV.up hB
  have gA := gA.up hB
  have gB := gB.up hB
  have gC := gC.up hB
  have oX := oX.up hB
  have oY := oY.up hB
  have oZ := oZ.up hB
  have oT := oT.up hB
  have B := B.trans (hB.mono B.size)
  clear hB
  clear hk9 h
  obtain ⟨x0, rfl⟩ : ∃ x : Hd, zx = Cell.v x := ⟨hd zx, oX.sl.hd.1.symm⟩
  obtain ⟨y0, rfl⟩ : ∃ x : Hd, zy = Cell.v x := ⟨hd zy, oY.sl.hd.1.symm⟩
  obtain ⟨z1, rfl⟩ : ∃ x : Hd, zz = Cell.v x := ⟨hd zz, oZ.sl.hd.1.symm⟩
  -- all the lists
  have iX : ∀ e ∈ [(Cell.v x0, D)], ∀ b, Fw.blk e.1 = some b → w16.heap.size ≤ b ∧ b < w17.heap.size := fun e he b hb => by
    obtain rfl := List.mem_singleton.1 he
    exact ⟨oX.low b hb, oX.top b hb⟩
  have iY : ∀ e ∈ [(Cell.v y0, D)], ∀ b, Fw.blk e.1 = some b → w17.heap.size ≤ b ∧ b < w18.heap.size := fun e he b hb => by
    obtain rfl := List.mem_singleton.1 he
    exact ⟨oY.low b hb, oY.top b hb⟩
  have iZ : ∀ e ∈ [(Cell.v z1, D')], ∀ b, Fw.blk e.1 = some b → w32.heap.size ≤ b ∧ b < w33.heap.size := fun e he b hb => by
    obtain rfl := List.mem_singleton.1 he
    exact ⟨oZ.low b hb, oZ.top b hb⟩
  have iA : ∀ e ∈ rowsE hsA R, ∀ b, Fw.blk e.1 = some b → w11.heap.size ≤ b ∧ b < w12.heap.size ∧ Fw.blk za ≠ some b := fun e he b hb => by
    obtain ⟨j, hj, rfl⟩ := rowsE_mem he
    exact ⟨(gA.row j hj).low b hb, (gA.row j hj).top b hb, gA.ap.list j hj b hb⟩
  have iB : ∀ e ∈ rowsE hsB (shd D K l), ∀ b, Fw.blk e.1 = some b → w12.heap.size ≤ b ∧ b < w13.heap.size := fun e he b hb => by
    obtain ⟨j, hj, rfl⟩ := rowsE_mem he
    exact ⟨(gB.row j hj).low b hb, (gB.row j hj).top b hb⟩
  have iC : ∀ e ∈ rowsE hsC (shd D' K l), ∀ b, Fw.blk e.1 = some b → w25.heap.size ≤ b ∧ b < w26.heap.size := fun e he b hb => by
    obtain ⟨j, hj, rfl⟩ := rowsE_mem he
    exact ⟨(gC.row j hj).low b hb, (gC.row j hj).top b hb⟩
  have L1 : Lst (α := El 8) w.heap.size [(Cell.v x0, D)] w36 := Lst.one (oX.own.mono (by omega))
  have L2 := L1.app (Lst.one (oY.own.mono (by omega))) fun e he f hf b hb hb2 => by
    have h1 := iX e he b hb
    have h2 := iY f hf b hb2
    omega
  have L3 := L2.app (Lst.one (oZ.own.mono (by omega))) fun e he f hf b hb hb2 => by
    have h2 := iZ f hf b hb2
    rcases List.mem_append.1 he with he | he
    · have h1 := iX e he b hb; omega
    · have h1 := iY e he b hb; omega
  have L4 := L3.app (gA.lst.mono (by omega)) fun e he f hf b hb hb2 => by
    have h2 := iA f hf b hb2
    rcases List.mem_append.1 he with he | he
    · rcases List.mem_append.1 he with he | he
      · have h1 := iX e he b hb; omega
      · have h1 := iY e he b hb; omega
    · have h1 := iZ e he b hb; omega
  have L5 := L4.app (gB.lst.mono (by omega)) fun e he f hf b hb hb2 => by
    have h2 := iB f hf b hb2
    rcases List.mem_append.1 he with he | he
    · rcases List.mem_append.1 he with he | he
      · rcases List.mem_append.1 he with he | he
        · have h1 := iX e he b hb; omega
        · have h1 := iY e he b hb; omega
      · have h1 := iZ e he b hb; omega
    · have h1 := iA e he b hb; omega
  have L6 := L5.app (gC.lst.mono (by omega)) fun e he f hf b hb hb2 => by
    have h2 := iC f hf b hb2
    rcases List.mem_append.1 he with he | he
    · rcases List.mem_append.1 he with he | he
      · rcases List.mem_append.1 he with he | he
        · rcases List.mem_append.1 he with he | he
          · have h1 := iX e he b hb; omega
          · have h1 := iY e he b hb; omega
        · have h1 := iZ e he b hb; omega
      · have h1 := iA e he b hb; omega
    · have h1 := iB e he b hb; omega
  clear L1 L2 L3 L4 L5
  generalize hE : [(Cell.v x0, D)] ++ [(Cell.v y0, D)] ++ [(Cell.v z1, D')] ++ rowsE hsA R ++ rowsE hsB (shd D K l) ++ rowsE hsC (shd D' K l) = E at L6
  have hEh : E.map (fun e => hd e.1) = (([x0, y0, z1] ++ hsA) ++ hsB) ++ hsC := by
    rw [← hE]
    simp only [List.map_append, rowsE_hd, List.map_cons, List.map_nil, hd_v, List.append_assoc, List.cons_append, List.nil_append]
  have hEb : ∀ e ∈ E, ∀ b, Fw.blk e.1 = some b → w11.heap.size ≤ b ∧ b < w33.heap.size ∧ (b < w22.heap.size ∨ w24.heap.size ≤ b) ∧ Fw.blk za ≠ some b := fun e he b hb => by
    have hza : ∀ b, Fw.blk za = some b → w11.heap.size ≤ b ∧ b < w12.heap.size := fun b hb => ⟨gA.top.low b hb, gA.top.top b hb⟩
    rw [← hE] at he
    rcases List.mem_append.1 he with he | he
    · rcases List.mem_append.1 he with he | he
      · rcases List.mem_append.1 he with he | he
        · rcases List.mem_append.1 he with he | he
          · rcases List.mem_append.1 he with he | he
            · have h1 := iX e he b hb; exact ⟨by omega, by omega, by omega, fun e => by have := hza b e; omega⟩
            · have h1 := iY e he b hb; exact ⟨by omega, by omega, by omega, fun e => by have := hza b e; omega⟩
          · have h1 := iZ e he b hb; exact ⟨by omega, by omega, by omega, fun e => by have := hza b e; omega⟩
        · have h1 := iA e he b hb; exact ⟨by omega, by omega, by omega, h1.2.2⟩
      · have h1 := iB e he b hb; exact ⟨by omega, by omega, by omega, fun e => by have := hza b e; omega⟩
    · have h1 := iC e he b hb; exact ⟨by omega, by omega, by omega, fun e => by have := hza b e; omega⟩
  have hEl : ∀ e ∈ E, e.2.length ≤ 1000 := fun e he => by
    rw [← hE] at he
    simp only [List.mem_append, List.mem_singleton] at he
    rcases he with ((((rfl | rfl) | rfl) | he) | he) | he
    · show D.length ≤ 1000; omega
    · show D.length ≤ 1000; omega
    · show D'.length ≤ 1000; omega
    · obtain ⟨j, hj, rfl⟩ := rowsE_mem he; show (R j).length ≤ 1000; rw [lR]; omega
    · obtain ⟨j, hj, rfl⟩ := rowsE_mem he; exact hR D j
    · obtain ⟨j, hj, rfl⟩ := rowsE_mem he; exact hR D' j
  have lE : E.length = 3 + 3 * (K + M) := by
    have := congrArg List.length hEh
    simp only [List.length_map, List.length_append, List.length_cons, List.length_nil] at this
    omega
  clear iX iY iZ iA iB iC hE
  simp (maxSteps := 1000000) (disch := omega) only [WS, List.getElem_cons_zero, List.getElem_cons_succ, Option.isNone_some, Option.isNone_none, List.getD_cons_zero, List.getD_cons_succ, I.at, atL, atO, atP, evp, evs, retV, ↓reduceIte, Nat.reduceEqDiff, reduceCtorEq, AS, t1, t5, t6, t7, t8, t9, t13, t15, t17, t19, t22, t25]
  refine X_bsl (zs := [x0, y0, z1]) (fill3h x0 y0 z1) (by rfl) fun r1 w37 or hB => ?_
  have gA7 := gA.top.up hB
  simp (maxSteps := 1000000) (disch := omega) only [WS, List.getElem_cons_zero, List.getElem_cons_succ, Option.isNone_some, Option.isNone_none, List.getD_cons_zero, List.getD_cons_succ, I.at, atL, atO, atP, evp, evs, retV, ↓reduceIte, Nat.reduceEqDiff, reduceCtorEq, AS, t1, t5, t6, t7, t8, t9, t13, t15, t17, t19, t22, t25]
  refine or.Xapp2 gA7.sl hB.size (by simp only [List.length_cons, List.length_nil, maxBytes]; omega) (by simp only [List.length_cons, List.length_nil]; omega) fun r2 w38 or2 hg => ?_
  have hB := hg.below hB hB.size fun b hb => (or.blk b hb).1
  clear hg or gA7
  have gB7 := gB.top.up hB
  simp (maxSteps := 1000000) (disch := omega) only [WS, List.getElem_cons_zero, List.getElem_cons_succ, Option.isNone_some, Option.isNone_none, List.getD_cons_zero, List.getD_cons_succ, I.at, atL, atO, atP, evp, evs, retV, ↓reduceIte, Nat.reduceEqDiff, reduceCtorEq, AS, t1, t5, t6, t7, t8, t9, t13, t15, t17, t19, t22, t25]
  refine or2.Xapp2 gB7.sl hB.size (by simp only [List.length_append, List.length_cons, List.length_nil, maxBytes]; omega) (by simp only [List.length_append, List.length_cons, List.length_nil]; omega) fun r3 w39 or3 hg => ?_
  have hB := hg.below hB hB.size fun b hb => (or2.blk b hb).1
  clear hg or2 gB7
  have gC7 := gC.top.up hB
  simp (maxSteps := 1000000) (disch := omega) only [WS, List.getElem_cons_zero, List.getElem_cons_succ, Option.isNone_some, Option.isNone_none, List.getD_cons_zero, List.getD_cons_succ, I.at, atL, atO, atP, evp, evs, retV, ↓reduceIte, Nat.reduceEqDiff, reduceCtorEq, AS, t1, t5, t6, t7, t8, t9, t13, t15, t17, t19, t22, t25]
  refine or3.Xapp2 gC7.sl hB.size (by simp only [List.length_append, List.length_cons, List.length_nil, maxBytes]; omega) (by simp only [List.length_append, List.length_cons, List.length_nil]; omega) fun r4 w40 or4 hg => ?_
  have hB := hg.below hB hB.size fun b hb => (or3.blk b hb).1
  clear hg or3 gC7
  rw [← hEh] at or4
  have q3640 := hB.size
  -- the frame
  generalize hF : (fun u : World => RowKit.Below w.heap.size w u ∧ Seg w4.heap.size w8.heap.size u sv V' ∧ Seg w22.heap.size w24.heap.size u st V' ∧ Ow w11.heap.size u za hsA) = F
  have hF40 : F w40 := by rw [← hF]; exact ⟨B.trans (hB.mono B.size), oV.up hB, oT.up hB, gA.top.own.up hB⟩
  have hFrm : Frm F (fun b => w.heap.size ≤ b ∧ (b < w4.heap.size ∨ w8.heap.size ≤ b) ∧ (b < w22.heap.size ∨ w24.heap.size ≤ b) ∧ Fw.blk za ≠ some b) := by
    rw [← hF]
    exact ⟨fun u u' b hu hb hg => ⟨hu.1.grown hg hu.1.size fun c hc => by cases hc; exact hb.1, hu.2.1.grown hg hb.2.1, hu.2.2.1.grown hg hb.2.2.1, hu.2.2.2.grown hg hb.2.2.2⟩, fun u u' hu hB => ⟨hu.1.trans (hB.mono hu.1.size), hu.2.1.up hB, hu.2.2.1.up hB, hu.2.2.2.up hB⟩⟩
  have hFo : ∀ u, F u → RowKit.Below w.heap.size w u ∧ Seg w4.heap.size w8.heap.size u sv V' ∧ Seg w22.heap.size w24.heap.size u st V' ∧ Ow w11.heap.size u za hsA := fun u hu => by rw [← hF] at hu; exact hu
  clear hF
  obtain ⟨hap, hRof⟩ := L6.rof B.size hF40 hB or4
  have hzat := gA.top.top
  have hDb : ∀ i (hi : i < (E.map fun e => hd e.1).length) b, Fw.blk (Cell.v (E.map fun e => hd e.1)[i]) = some b → w.heap.size ≤ b ∧ (b < w4.heap.size ∨ w8.heap.size ≤ b) ∧ (b < w22.heap.size ∨ w24.heap.size ≤ b) ∧ Fw.blk za ≠ some b := fun j hj b hb => by
    have hj' : j < E.length := by simpa using hj
    rw [List.getElem_map, (L6.ow j _ (List.getElem?_eq_getElem hj')).sl.hd.1] at hb
    have h1 := hEb E[j] (List.getElem_mem hj') b hb
    exact ⟨by omega, by omega, h1.2.2.1, h1.2.2.2⟩
  have lEh : (E.map fun e => hd e.1).length = 3 + 3 * (K + M) := by rw [List.length_map, lE]
  have hAn : ∀ j (hj : j < hsA.length), hsA[j].n = l := fun j hj => (hd_n (gA.row j hj).sl).trans (lR j)
  have hEl2 : ∀ j, j < (E.map fun e => hd e.1).length → ((E.map fun e => e.2).getD j []).length ≤ 1000000 := fun j hj => by
    have hj' : j < E.length := by simpa using hj
    rw [List.getD_eq_getElem?_getD, List.getElem?_map, List.getElem?_eq_getElem hj']
    have := hEl E[j] (List.getElem_mem hj')
    show E[j].2.length ≤ 1000000
    omega
  clear or4 B hB oV gB gC oX oY oZ oT gA
  simp (maxSteps := 1000000) (disch := omega) only [WS, List.getElem_cons_zero, List.getElem_cons_succ, Option.isNone_some, Option.isNone_none, List.getD_cons_zero, List.getD_cons_succ, I.at, atL, atO, atP, evp, evs, retV, ↓reduceIte, Nat.reduceEqDiff, reduceCtorEq, AS, t1, t5, t6, t7, t8, t9, t13, t15, t17, t19, t22, t25]
  refine X_call0 ((culletlaw16_apart_spec w40 w.heap.size F _ r4 (E.map fun e => hd e.1) (E.map fun e => e.2) hap hFrm hDb (fun b hb => ⟨by omega, by omega, by omega, fun e => by have := hzat b e; omega⟩) hRof hEl2 (by rw [lEh]; omega) (by rw [lEh]; omega)).mono ?_)
  rintro _ w41 ⟨rfl, hF41⟩
  obtain ⟨B, oV, oT, oz⟩ := hFo _ hF41
  clear hF40 hFrm hFo hap hRof hDb L6 hEh hEb hEl hEl2 lE lEh hF41
  simp (maxSteps := 1000000) (disch := omega) only [WS, List.getElem_cons_zero, List.getElem_cons_succ, Option.isNone_some, Option.isNone_none, List.getD_cons_zero, List.getD_cons_succ, I.at, atL, atO, atP, evp, evs, retV, ↓reduceIte, Nat.reduceEqDiff, reduceCtorEq, AS, t1, t5, t6, t7, t8, t9, t13, t15, t17, t19, t22, t25]
  refine X_call0 ((culletlaw16_sameBytes_spec w41 sv st V' V' oV.sl oT.sl (by omega) (by omega)).mono ?_)
  rintro _ w42 ⟨rfl, hk9⟩
  have hB := hk9.1
  rw [decide_eq_true rfl]
  have oz := oz.up hB
  have B := B.trans (hB.mono B.size)
  clear hB
  clear hk9
  have i0 : 0 < hsA.length := by omega
  simp (maxSteps := 1000000) (disch := omega) only [WS, List.getElem_cons_zero, List.getElem_cons_succ, Option.isNone_some, Option.isNone_none, List.getD_cons_zero, List.getD_cons_succ, I.at, atL, atO, atP, evp, evs, retV, ↓reduceIte, Nat.reduceEqDiff, reduceCtorEq, AS, t1, t5, t6, t7, t8, t9, t13, t15, t17, t19, t22, t25, oz.sl.Xix0 i0]
  refine oz.Xst i0 hdn fun w43 oz2 hg => ?_
  have B := B.grown hg B.size fun b hb => by have := (oz.blk b hb).1; omega
  have lA2 : (hsA.set 0 hdn).length = K + M := by rw [List.length_set]; exact lA
  have hA0 : hln (hsA.set 0 hdn) 0 = 0 := by rw [hln_get _ (by omega), List.getElem_set_self]; rfl
  have hAj : ∀ j, 0 < j → j < K + M → hln (hsA.set 0 hdn) j = l := fun j h0 hj => by
    rw [hln_get _ (by omega), List.getElem_set_ne (by omega)]
    exact hAn j (by omega)
  have hlns : ∀ len ev, Lns (hln (hsA.set 0 hdn)) (K + M) len ev → len = l ∧ ev = true := fun len ev hn => by
    have h1 : len ≠ 0 := fun e => by
      have := hn.z.1 e 1 (by omega)
      rw [hAj 1 (by omega) (by omega)] at this
      omega
    obtain ⟨j, hj, e⟩ := hn.m h1
    have h2 : len = l := by
      by_cases h0 : j = 0
      · subst h0; rw [hA0] at e; exact absurd e.symm h1
      · rw [hAj j (by omega) hj] at e; exact e.symm
    refine ⟨h2, hn.e.2 fun j hj => ?_⟩
    by_cases h0 : j = 0
    · subst h0; exact Or.inl hA0
    · right; rw [hAj j (by omega) hj, h2]
  have hcnt : cnt f K M (K + M) = 0 := by
    unfold cnt
    rw [if_neg (fun e => e hp), if_neg (by omega)]
  have oz := oz2.sl
  clear hg oz2
  simp (maxSteps := 1000000) (disch := omega) only [WS, List.getElem_cons_zero, List.getElem_cons_succ, Option.isNone_some, Option.isNone_none, List.getD_cons_zero, List.getD_cons_succ, I.at, atL, atO, atP, evp, evs, retV, ↓reduceIte, Nat.reduceEqDiff, reduceCtorEq, AS, t1, t5, t6, t7, t8, t9, t13, t15, t17, t19, t22, t25]
  refine X_call0 ((shape_Partial_spec w43 f K M za _ oz).mono ?_)
  rintro _ w44 ⟨hB, len1, ev1, s1, n1, rfl, o1⟩
  rw [lA2] at n1 o1
  obtain ⟨rfl, rfl⟩ := hlns _ _ (n1 hcnt)
  generalize hZ : (if (prt f K M (K + M) (zis (hln (hsA.set 0 hdn)) (K + M)).length len1 true).2 = 0 then zis (hln (hsA.set 0 hdn)) (K + M) else []) = Z at o1
  have lZ : Z.length ≤ 100 := by
    rw [← hZ]
    have := zis_le (hln (hsA.set 0 hdn)) (K + M)
    split
    · omega
    · simp
  have oz := oz.up hB
  have q4344 := hB.size
  have q43 := B.size
  have B := B.trans (hB.mono B.size)
  clear hB
  have o1 := Seg.of o1
  simp (maxSteps := 1000000) (disch := omega) only [WS, List.getElem_cons_zero, List.getElem_cons_succ, Option.isNone_some, Option.isNone_none, List.getD_cons_zero, List.getD_cons_succ, I.at, atL, atO, atP, evp, evs, retV, ↓reduceIte, Nat.reduceEqDiff, reduceCtorEq, AS, t1, t5, t6, t7, t8, t9, t13, t15, t17, t19, t22, t25]
  refine X_call0 ((shape_Partial_spec w44 f K M za _ oz).mono ?_)
  rintro _ w45 ⟨hB, len2, ev2, s2, n2, rfl, o2⟩
  rw [lA2] at n2 o2
  obtain ⟨rfl, rfl⟩ := hlns _ _ (n2 hcnt)
  rw [hZ] at o2
  have q4445 := hB.size
  have o1 := o1.up hB
  have B := B.trans (hB.mono B.size)
  clear hB
  have o2 := Seg.of o2
  simp (maxSteps := 1000000) (disch := omega) only [WS, List.getElem_cons_zero, List.getElem_cons_succ, Option.isNone_some, Option.isNone_none, List.getD_cons_zero, List.getD_cons_succ, I.at, atL, atO, atP, evp, evs, retV, ↓reduceIte, Nat.reduceEqDiff, reduceCtorEq, AS, t1, t5, t6, t7, t8, t9, t13, t15, t17, t19, t22, t25]
  refine X_bsl (zs := [(7 : Int), 7, 7, 7]) (by rfl) (by rfl) fun p7 w46 o7 hB => ?_
  have q4546 := hB.size
  have o1 := o1.up hB
  have o2 := o2.up hB
  have B := B.trans (hB.mono B.size)
  clear hB
  simp (maxSteps := 1000000) (disch := omega) only [WS, List.getElem_cons_zero, List.getElem_cons_succ, Option.isNone_some, Option.isNone_none, List.getD_cons_zero, List.getD_cons_succ, I.at, atL, atO, atP, evp, evs, retV, ↓reduceIte, Nat.reduceEqDiff, reduceCtorEq, AS, t1, t5, t6, t7, t8, t9, t13, t15, t17, t19, t22, t25]
  refine o1.own.Xapp2 o7.sl (by omega) (by simp only [List.length_cons, List.length_nil, maxBytes]; omega) (by simp only [List.length_cons, List.length_nil]; omega) fun g1 w47 og1 hg1 => ?_
  have k1 := hg1.keepSl o1.own og1
  have hk1 := hg1.keep
  have o2 : Ow w44.heap.size w47 s2 Z := o2.own.keep hk1 fun b hb e => by have h1 := o1.top b e; have h2 := o2.low b hb; omega
  have gn1 : ∀ b, Fw.blk g1 = some b → b < w44.heap.size ∨ w46.heap.size ≤ b := fun b hb => by
    rcases hg1.new with e | e
    · rw [e] at hb; exact Or.inl (o1.top b hb)
    · exact Or.inr (e b hb)
  have o2t : ∀ b, Fw.blk s2 = some b → w44.heap.size ≤ b ∧ b < w46.heap.size := fun b hb => by
    have h1 := (o2.blk b hb).1
    have h2 := (show Seg w44.heap.size w45.heap.size w46 s2 Z by assumption).top b hb
    omega
  have s1t : ∀ b, Fw.blk s1 = some b → b < w44.heap.size := o1.top
  have B := hg1.below B B.size fun b hb => by have := o1.low b hb; omega
  have q4647 := hg1.size
  clear o1 hg1 hk1 o7
  simp (maxSteps := 1000000) (disch := omega) only [WS, List.getElem_cons_zero, List.getElem_cons_succ, Option.isNone_some, Option.isNone_none, List.getD_cons_zero, List.getD_cons_succ, I.at, atL, atO, atP, evp, evs, retV, ↓reduceIte, Nat.reduceEqDiff, reduceCtorEq, AS, t1, t5, t6, t7, t8, t9, t13, t15, t17, t19, t22, t25]
  refine X_bsl (zs := [(9 : Int), 9, 9, 9]) (by rfl) (by rfl) fun p9 w48 o9 hB => ?_
  have q4748 := hB.size
  have k1 := k1.up hB
  have o2 := o2.up hB
  have og1 := og1.up hB
  have B := B.trans (hB.mono B.size)
  clear hB
  simp (maxSteps := 1000000) (disch := omega) only [WS, List.getElem_cons_zero, List.getElem_cons_succ, Option.isNone_some, Option.isNone_none, List.getD_cons_zero, List.getD_cons_succ, I.at, atL, atO, atP, evp, evs, retV, ↓reduceIte, Nat.reduceEqDiff, reduceCtorEq, AS, t1, t5, t6, t7, t8, t9, t13, t15, t17, t19, t22, t25]
  refine o2.Xapp2 o9.sl (by omega) (by simp only [List.length_cons, List.length_nil, maxBytes]; omega) (by simp only [List.length_cons, List.length_nil]; omega) fun g2 w49 og2 hg2 => ?_
  have k2 := hg2.keepSl o2 og2
  have hk2 := hg2.keep
  have k1 := k1.keep hk2 fun b hb e => by have h1 := s1t b hb; have h2 := o2t b e; omega
  have og1 := og1.keep hk2 fun b hb e => by have h1 := gn1 b hb; have h2 := o2t b e; omega
  have B := hg2.below B B.size fun b hb => by have := o2t b hb; omega
  clear o2 hg2 hk2 o9
  simp (maxSteps := 1000000) (disch := omega) only [WS, List.getElem_cons_zero, List.getElem_cons_succ, Option.isNone_some, Option.isNone_none, List.getD_cons_zero, List.getD_cons_succ, I.at, atL, atO, atP, evp, evs, retV, ↓reduceIte, Nat.reduceEqDiff, reduceCtorEq, AS, t1, t5, t6, t7, t8, t9, t13, t15, t17, t19, t22, t25]
  refine X_call0 ((culletlaw16_sameInts_spec w49 s1 s2 Z k1 k2 (by omega)).mono ?_)
  rintro _ w50 ⟨rfl, hB⟩
  have og1 := og1.up hB
  have og2 := og2.up hB
  have B := B.trans (hB.mono B.size)
  clear hB
  have lg1 : (Z ++ [(7 : Int), 7, 7, 7]).length = Z.length + 4 := by simp
  have lg2 : (Z ++ [(9 : Int), 9, 9, 9]).length = Z.length + 4 := by simp
  have j1 : Z.length + 4 - 1 < (Z ++ [(7 : Int), 7, 7, 7]).length := by omega
  have j2 : Z.length + 4 - 1 < (Z ++ [(9 : Int), 9, 9, 9]).length := by omega
  have v1 : (Z ++ [(7 : Int), 7, 7, 7])[Z.length + 4 - 1] = 7 := by
    rw [List.getElem_append_right (by omega)]
    simp [show Z.length + 4 - 1 - Z.length = 3 by omega]
  have v2 : (Z ++ [(9 : Int), 9, 9, 9])[Z.length + 4 - 1] = 9 := by
    rw [List.getElem_append_right (by omega)]
    simp [show Z.length + 4 - 1 - Z.length = 3 by omega]
  simp (maxSteps := 1000000) (disch := omega) only [WS, List.getElem_cons_zero, List.getElem_cons_succ, Option.isNone_some, Option.isNone_none, List.getD_cons_zero, List.getD_cons_succ, I.at, atL, atO, atP, evp, evs, retV, ↓reduceIte, Nat.reduceEqDiff, reduceCtorEq, AS, t1, t5, t6, t7, t8, t9, t13, t15, t17, t19, t22, t25, og1.sl.Xlen, lg1, og1.sl.Xix j1, og1.sl.Xld j1, v1, og2.sl.Xlen, lg2, og2.sl.Xix j2, og2.sl.Xld j2, v2, cell_int, dt]
  exact B
end Go.Proofs.Ytcbjabnnokjnpaa.Fw
