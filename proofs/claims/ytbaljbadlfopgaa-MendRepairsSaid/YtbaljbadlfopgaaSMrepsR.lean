import Derived.Test.YtbaljbadlfopgaaProg
import Derived.Test.YtbaljbadlfopgaaFwTR
import Derived.Test.YtbaljbadlfopgaaSMmadeR
import Derived.Test.YtbaljbadlfopgaaFwWR
set_option linter.all false
set_option linter.unusedVariables false
set_option linter.unusedSimpArgs false
set_option maxRecDepth 100000
set_option maxHeartbeats 1000000
namespace Go.Proofs.Ytbaljbadlfopgaa.Fw
open Go Go.Fw Go.Proofs
attribute [local irreducible] stepI
def c_culletlaw19_MendRepairs : C := .seq (.ops [⟨0, (some 1), none, .box 61 (.t 0), []⟩, ⟨1, (some 2), none, .mov (.c (.bool false)), []⟩]) (.seq (.seq (.ops [⟨0, (some 20), none, .call (.c (.func (.func 13) #[] #[])) [], []⟩, ⟨1, (some 21), none, .un .not (.t 20), []⟩]) (.ite (.t 21) (.seq (.ops [⟨0, (some 2), none, .mov (.c (.bool false)), []⟩]) .ret) .skip)) (.seq (.seq (.ops [⟨0, (some 22), none, .fad 0 (.t 1), []⟩, ⟨1, (some 23), none, .ld (.t 22), []⟩, ⟨2, (some 24), none, .fad 1 (.t 1), []⟩, ⟨3, (some 25), none, .ld (.t 24), []⟩, ⟨4, (some 26), none, .fad 2 (.t 1), []⟩, ⟨5, (some 27), none, .ld (.t 26), []⟩, ⟨6, (some 28), none, .call (.c (.func (.func 26) #[] #[])) [.t 23, .t 25, .t 27], []⟩, ⟨7, (some 29), none, .un .not (.t 28), []⟩, ⟨8, (some 30), none, .mov (.t 29), []⟩, ⟨9, (some 31), (some (30, false)), .fad 3 (.t 1), []⟩, ⟨10, (some 32), (some (30, false)), .ld (.t 31), []⟩, ⟨11, (some 33), (some (30, false)), .len (.t 32), []⟩, ⟨12, (some 34), (some (30, false)), .bin .eql (.t 33) (.c (.int .i64 0)), []⟩, ⟨13, (some 35), none, .pick (.t 30) (.c (.bool true)) (.t 34), []⟩, ⟨14, (some 36), none, .mov (.t 35), []⟩, ⟨15, (some 37), (some (36, false)), .fad 3 (.t 1), []⟩, ⟨16, (some 38), (some (36, false)), .ld (.t 37), []⟩, ⟨17, (some 39), (some (36, false)), .len (.t 38), []⟩, ⟨18, (some 40), (some (36, false)), .bin .gtr (.t 39) (.c (.int .i64 64)), []⟩, ⟨19, (some 41), none, .pick (.t 36) (.c (.bool true)) (.t 40), []⟩, ⟨20, (some 42), none, .mov (.t 41), []⟩, ⟨21, (some 43), (some (42, false)), .fad 1 (.t 1), []⟩, ⟨22, (some 44), (some (42, false)), .ld (.t 43), []⟩, ⟨23, (some 45), (some (42, false)), .fad 2 (.t 1), []⟩, ⟨24, (some 46), (some (42, false)), .ld (.t 45), []⟩, ⟨25, (some 47), (some (42, false)), .bin .add (.t 44) (.t 46), []⟩, ⟨26, (some 48), (some (42, false)), .fad 1 (.t 1), []⟩, ⟨27, (some 49), (some (42, false)), .ld (.t 48), []⟩, ⟨28, (some 50), (some (42, false)), .fad 2 (.t 1), []⟩, ⟨29, (some 51), (some (42, false)), .ld (.t 50), []⟩, ⟨30, (some 52), (some (42, false)), .bin .add (.t 49) (.t 51), []⟩, ⟨31, (some 53), (some (42, false)), .bin .mul (.t 47) (.t 52), []⟩, ⟨32, (some 54), (some (42, false)), .fad 3 (.t 1), []⟩, ⟨33, (some 55), (some (42, false)), .ld (.t 54), []⟩, ⟨34, (some 56), (some (42, false)), .len (.t 55), []⟩, ⟨35, (some 57), (some (42, false)), .bin .mul (.t 53) (.t 56), []⟩, ⟨36, (some 58), (some (42, false)), .bin .gtr (.t 57) (.c (.int .i64 262144)), []⟩, ⟨37, (some 59), none, .pick (.t 42) (.c (.bool true)) (.t 58), []⟩]) (.ite (.t 59) (.seq (.ops [⟨0, (some 2), none, .mov (.c (.bool true)), []⟩]) .ret) .skip)) (.seq (.ops [⟨0, (some 60), none, .fad 1 (.t 1), []⟩, ⟨1, (some 61), none, .ld (.t 60), []⟩, ⟨2, (some 62), none, .fad 2 (.t 1), []⟩, ⟨3, (some 63), none, .ld (.t 62), []⟩, ⟨4, (some 64), none, .bin .add (.t 61) (.t 63), []⟩, ⟨5, (some 3), none, .mov (.t 64), []⟩]) (.seq (.ops [⟨0, (some 65), none, .ldn 6 (.t 1), []⟩, ⟨1, (some 66), none, .call (.c (.func (.func 30) #[] #[])) [.t 65], []⟩, ⟨2, (some 4), none, .mov (.t 66), []⟩]) (.seq (.ops [⟨0, (some 67), none, .mov (.t 4), []⟩, ⟨1, (some 68), none, .call (.c (.func (.func 23) #[] #[])) [.t 67], []⟩, ⟨2, (some 5), none, .mov (.t 68), []⟩]) (.seq (.ops [⟨0, (some 6), none, .mov (.c (.int .i64 0)), []⟩]) (.seq (.seq (.ops [⟨0, (some 69), none, .fad 4 (.t 1), []⟩, ⟨1, (some 70), none, .ld (.t 69), []⟩, ⟨2, (some 71), none, .len (.t 70), []⟩, ⟨3, (some 72), none, .mov (.c (.int .i64 0)), []⟩]) (.block 0 (.loop (.seq (.ops [⟨0, (some 73), none, .bin .lss (.t 72) (.t 71), []⟩]) (.seq (.ite (.t 73) .skip (.exit 0)) (.seq (.block 1 (.seq (.ops [⟨0, (some 74), none, .ixs 1 (.t 70) (.t 72), []⟩, ⟨1, (some 75), none, .ld (.t 74), []⟩, ⟨2, (some 8), none, .mov (.t 75), []⟩]) (.seq (.ops [⟨0, (some 76), none, .mov (.t 8), []⟩, ⟨1, (some 77), none, .bin .geq (.t 76) (.c (.int .i64 0)), []⟩, ⟨2, (some 78), none, .mov (.t 77), []⟩, ⟨3, (some 79), (some (78, true)), .mov (.t 8), []⟩, ⟨4, (some 80), (some (78, true)), .mov (.t 3), []⟩, ⟨5, (some 81), (some (78, true)), .bin .lss (.t 79) (.t 80), []⟩, ⟨6, (some 82), none, .pick (.t 78) (.t 81) (.c (.bool false)), []⟩, ⟨7, (some 83), none, .mov (.t 82), []⟩, ⟨8, (some 84), (some (83, true)), .mov (.t 5), []⟩, ⟨9, (some 85), (some (83, true)), .mov (.t 8), []⟩, ⟨10, (some 86), (some (83, true)), .ixs 1 (.t 84) (.t 85), []⟩, ⟨11, (some 87), (some (83, true)), .ld (.t 86), []⟩, ⟨12, (some 88), (some (83, true)), .len (.t 87), []⟩, ⟨13, (some 89), (some (83, true)), .bin .gtr (.t 88) (.c (.int .i64 0)), []⟩, ⟨14, (some 90), none, .pick (.t 83) (.t 89) (.c (.bool false)), []⟩, ⟨15, (some 91), none, .mov (.t 90), []⟩, ⟨16, (some 92), (some (91, true)), .mov (.t 6), []⟩, ⟨17, (some 93), (some (91, true)), .fad 2 (.t 1), []⟩, ⟨18, (some 94), (some (91, true)), .ld (.t 93), []⟩, ⟨19, (some 95), (some (91, true)), .bin .lss (.t 92) (.t 94), []⟩, ⟨20, (some 96), none, .pick (.t 91) (.t 95) (.c (.bool false)), []⟩]) (.ite (.t 96) (.seq (.ops [⟨0, (some 97), none, .mov (.t 5), []⟩, ⟨1, (some 98), none, .mov (.t 8), []⟩, ⟨2, (some 99), none, .ixs 1 (.t 97) (.t 98), []⟩, ⟨3, none, none, .st (.t 99) (.c (.slice none 0 0)), []⟩]) (.ops [⟨0, (some 100), none, .mov (.t 6), []⟩, ⟨1, (some 101), none, .bin .add (.t 100) (.c (.int .i64 1)), []⟩, ⟨2, (some 6), none, .mov (.t 101), []⟩])) .skip)))) (.ops [⟨0, (some 102), none, .bin .add (.t 72) (.c (.int .i64 1)), []⟩, ⟨1, (some 72), none, .mov (.t 102), []⟩]))))))) (.seq (.seq (.ops [⟨0, (some 103), none, .fad 5 (.t 1), []⟩, ⟨1, (some 104), none, .ld (.t 103), []⟩, ⟨2, (some 105), none, .len (.t 104), []⟩, ⟨3, (some 106), none, .mov (.c (.int .i64 0)), []⟩]) (.block 2 (.loop (.seq (.ops [⟨0, (some 107), none, .bin .lss (.t 106) (.t 105), []⟩]) (.seq (.ite (.t 107) .skip (.exit 2)) (.seq (.block 3 (.seq (.ops [⟨0, (some 108), none, .ixs 3 (.t 104) (.t 106), []⟩, ⟨1, (some 109), none, .ldn 3 (.t 108), []⟩, ⟨2, (some 10), none, .alloc 64 [.int .i64 0, .int .i64 0, .int .u8 0], []⟩, ⟨3, none, none, .stn 3 (.t 10) (.t 109), []⟩]) (.seq (.seq (.ops [⟨0, (some 110), none, .fad 1 (.t 10), []⟩, ⟨1, (some 111), none, .ld (.t 110), []⟩, ⟨2, (some 112), none, .bin .lss (.t 111) (.c (.int .i64 0)), []⟩, ⟨3, (some 113), none, .mov (.t 112), []⟩, ⟨4, (some 114), (some (113, false)), .fad 1 (.t 10), []⟩, ⟨5, (some 115), (some (113, false)), .ld (.t 114), []⟩, ⟨6, (some 116), (some (113, false)), .mov (.t 3), []⟩, ⟨7, (some 117), (some (113, false)), .bin .geq (.t 115) (.t 116), []⟩, ⟨8, (some 118), none, .pick (.t 113) (.c (.bool true)) (.t 117), []⟩, ⟨9, (some 119), none, .mov (.t 118), []⟩, ⟨10, (some 120), (some (119, false)), .fad 0 (.t 10), []⟩, ⟨11, (some 121), (some (119, false)), .ld (.t 120), []⟩, ⟨12, (some 122), (some (119, false)), .bin .lss (.t 121) (.c (.int .i64 0)), []⟩, ⟨13, (some 123), none, .pick (.t 119) (.c (.bool true)) (.t 122), []⟩, ⟨14, (some 124), none, .mov (.t 123), []⟩, ⟨15, (some 125), (some (124, false)), .fad 0 (.t 10), []⟩, ⟨16, (some 126), (some (124, false)), .ld (.t 125), []⟩, ⟨17, (some 127), (some (124, false)), .fad 3 (.t 1), []⟩, ⟨18, (some 128), (some (124, false)), .ld (.t 127), []⟩, ⟨19, (some 129), (some (124, false)), .len (.t 128), []⟩, ⟨20, (some 130), (some (124, false)), .bin .geq (.t 126) (.t 129), []⟩, ⟨21, (some 131), none, .pick (.t 124) (.c (.bool true)) (.t 130), []⟩, ⟨22, (some 132), none, .mov (.t 131), []⟩, ⟨23, (some 133), (some (132, false)), .mov (.t 5), []⟩, ⟨24, (some 134), (some (132, false)), .fad 1 (.t 10), []⟩, ⟨25, (some 135), (some (132, false)), .ld (.t 134), []⟩, ⟨26, (some 136), (some (132, false)), .ixs 1 (.t 133) (.t 135), []⟩, ⟨27, (some 137), (some (132, false)), .ld (.t 136), []⟩, ⟨28, (some 138), (some (132, false)), .len (.t 137), []⟩, ⟨29, (some 139), (some (132, false)), .bin .eql (.t 138) (.c (.int .i64 0)), []⟩, ⟨30, (some 140), none, .pick (.t 132) (.c (.bool true)) (.t 139), []⟩]) (.ite (.t 140) (.exit 3) .skip)) (.dops [⟨0, (some 141), none, .mov (.t 5), []⟩, ⟨1, (some 142), none, .fad 1 (.t 10), []⟩, ⟨2, (some 143), none, .ld (.t 142), []⟩, ⟨3, (some 144), none, .ixs 1 (.t 141) (.t 143), []⟩, ⟨4, (some 145), none, .ld (.t 144), []⟩, ⟨5, (some 146), none, .fad 0 (.t 10), []⟩, ⟨6, (some 147), none, .ld (.t 146), []⟩, ⟨7, (some 148), none, .mov (.t 5), []⟩, ⟨8, (some 149), none, .fad 1 (.t 10), []⟩, ⟨9, (some 150), none, .ld (.t 149), []⟩, ⟨10, (some 151), none, .ixs 1 (.t 148) (.t 150), []⟩, ⟨11, (some 152), none, .ld (.t 151), []⟩, ⟨12, (some 153), none, .fad 0 (.t 10), []⟩, ⟨13, (some 154), none, .ld (.t 153), []⟩, ⟨14, (some 155), none, .ixs 1 (.t 152) (.t 154), []⟩, ⟨15, (some 156), none, .ld (.t 155), []⟩, ⟨16, (some 157), none, .fad 2 (.t 10), []⟩, ⟨17, (some 158), none, .ld (.t 157), []⟩, ⟨18, (some 159), none, .bin .xor (.t 156) (.t 158), []⟩, ⟨19, (some 160), none, .ixs 1 (.t 145) (.t 147), []⟩, ⟨20, none, none, .st (.t 160) (.t 159), []⟩])))) (.ops [⟨0, (some 161), none, .bin .add (.t 106) (.c (.int .i64 1)), []⟩, ⟨1, (some 106), none, .mov (.t 161), []⟩]))))))) (.seq (.ops [⟨0, (some 11), none, .mov (.c (.slice none 0 0)), []⟩]) (.seq (.seq (.ops [⟨0, (some 12), none, .mov (.c (.int .i64 0)), []⟩]) (.block 4 (.loop (.seq (.seq (.ops [⟨0, (some 162), none, .mov (.t 12), []⟩, ⟨1, (some 163), none, .mov (.t 3), []⟩, ⟨2, (some 164), none, .bin .lss (.t 162) (.t 163), []⟩]) (.ite (.t 164) .skip (.exit 4))) (.seq (.block 5 (.seq (.dops [⟨0, (some 167), none, .mov (.t 5), []⟩, ⟨1, (some 168), none, .mov (.t 12), []⟩, ⟨2, (some 169), none, .ixs 1 (.t 167) (.t 168), []⟩, ⟨3, (some 170), none, .ld (.t 169), []⟩, ⟨4, (some 171), none, .len (.t 170), []⟩, ⟨5, (some 172), none, .bin .gtr (.t 171) (.c (.int .i64 0)), []⟩, ⟨6, (some 173), none, .mov (.t 172), []⟩, ⟨7, (some 174), (some (173, true)), .mov (.t 5), []⟩, ⟨8, (some 175), (some (173, true)), .mov (.t 12), []⟩, ⟨9, (some 176), (some (173, true)), .ixs 1 (.t 174) (.t 175), []⟩, ⟨10, (some 177), (some (173, true)), .ld (.t 176), []⟩, ⟨11, (some 178), (some (173, true)), .mov (.t 4), []⟩, ⟨12, (some 179), (some (173, true)), .mov (.t 12), []⟩, ⟨13, (some 180), (some (173, true)), .ixs 1 (.t 178) (.t 179), []⟩, ⟨14, (some 181), (some (173, true)), .ld (.t 180), []⟩, ⟨15, (some 182), (some (173, true)), .call (.c (.func (.func 17) #[] #[])) [.t 177, .t 181], []⟩, ⟨16, (some 183), (some (173, true)), .un .not (.t 182), []⟩, ⟨17, (some 184), none, .pick (.t 173) (.t 183) (.c (.bool false)), []⟩]) (.ite (.t 184) (.ops [⟨0, (some 185), none, .mov (.t 11), []⟩, ⟨1, (some 186), none, .mov (.t 12), []⟩, ⟨2, (some 187), none, .bsl 3 1 [.int .i64 0] [(0, (1, .t 186))], []⟩, ⟨3, (some 188), none, .app 3 8 [.int .i64 0] (.t 185) (.t 187), []⟩, ⟨4, (some 11), none, .mov (.t 188), []⟩]) .skip))) (.ops [⟨0, (some 165), none, .mov (.t 12), []⟩, ⟨1, (some 166), none, .bin .add (.t 165) (.c (.int .i64 1)), []⟩, ⟨2, (some 12), none, .mov (.t 166), []⟩])))))) (.seq (.seq (.ops [⟨0, (some 13), none, .mov (.c (.int .i64 0)), []⟩]) (.block 6 (.loop (.seq (.seq (.ops [⟨0, (some 189), none, .mov (.t 13), []⟩, ⟨1, (some 190), none, .fad 3 (.t 1), []⟩, ⟨2, (some 191), none, .ld (.t 190), []⟩, ⟨3, (some 192), none, .len (.t 191), []⟩, ⟨4, (some 193), none, .bin .lss (.t 189) (.t 192), []⟩]) (.ite (.t 193) .skip (.exit 6))) (.seq (.block 7 (.seq (.ops [⟨0, (some 14), none, .mov (.c (.int .i64 0)), []⟩]) (.seq (.seq (.ops [⟨0, (some 15), none, .mov (.c (.int .i64 0)), []⟩]) (.block 8 (.loop (.seq (.seq (.ops [⟨0, (some 196), none, .mov (.t 15), []⟩, ⟨1, (some 197), none, .mov (.t 3), []⟩, ⟨2, (some 198), none, .bin .lss (.t 196) (.t 197), []⟩]) (.ite (.t 198) .skip (.exit 8))) (.seq (.block 9 (.seq (.dops [⟨0, (some 201), none, .mov (.t 5), []⟩, ⟨1, (some 202), none, .mov (.t 15), []⟩, ⟨2, (some 203), none, .ixs 1 (.t 201) (.t 202), []⟩, ⟨3, (some 204), none, .ld (.t 203), []⟩, ⟨4, (some 205), none, .len (.t 204), []⟩, ⟨5, (some 206), none, .bin .gtr (.t 205) (.c (.int .i64 0)), []⟩, ⟨6, (some 207), none, .mov (.t 206), []⟩, ⟨7, (some 208), (some (207, true)), .mov (.t 5), []⟩, ⟨8, (some 209), (some (207, true)), .mov (.t 15), []⟩, ⟨9, (some 210), (some (207, true)), .ixs 1 (.t 208) (.t 209), []⟩, ⟨10, (some 211), (some (207, true)), .ld (.t 210), []⟩, ⟨11, (some 212), (some (207, true)), .mov (.t 13), []⟩, ⟨12, (some 213), (some (207, true)), .ixs 1 (.t 211) (.t 212), []⟩, ⟨13, (some 214), (some (207, true)), .ld (.t 213), []⟩, ⟨14, (some 215), (some (207, true)), .mov (.t 4), []⟩, ⟨15, (some 216), (some (207, true)), .mov (.t 15), []⟩, ⟨16, (some 217), (some (207, true)), .ixs 1 (.t 215) (.t 216), []⟩, ⟨17, (some 218), (some (207, true)), .ld (.t 217), []⟩, ⟨18, (some 219), (some (207, true)), .mov (.t 13), []⟩, ⟨19, (some 220), (some (207, true)), .ixs 1 (.t 218) (.t 219), []⟩, ⟨20, (some 221), (some (207, true)), .ld (.t 220), []⟩, ⟨21, (some 222), (some (207, true)), .bin .neq (.t 214) (.t 221), []⟩, ⟨22, (some 223), none, .pick (.t 207) (.t 222) (.c (.bool false)), []⟩]) (.ite (.t 223) (.ops [⟨0, (some 224), none, .mov (.t 14), []⟩, ⟨1, (some 225), none, .bin .add (.t 224) (.c (.int .i64 1)), []⟩, ⟨2, (some 14), none, .mov (.t 225), []⟩]) .skip))) (.ops [⟨0, (some 199), none, .mov (.t 15), []⟩, ⟨1, (some 200), none, .bin .add (.t 199) (.c (.int .i64 1)), []⟩, ⟨2, (some 15), none, .mov (.t 200), []⟩])))))) (.seq (.ops [⟨0, (some 226), none, .mov (.t 14), []⟩, ⟨1, (some 227), none, .bin .mul (.c (.int .i64 2)) (.t 226), []⟩, ⟨2, (some 228), none, .fad 2 (.t 1), []⟩, ⟨3, (some 229), none, .ld (.t 228), []⟩, ⟨4, (some 230), none, .mov (.t 6), []⟩, ⟨5, (some 231), none, .bin .sub (.t 229) (.t 230), []⟩, ⟨6, (some 232), none, .bin .gtr (.t 227) (.t 231), []⟩]) (.ite (.t 232) (.seq (.ops [⟨0, (some 2), none, .mov (.c (.bool true)), []⟩]) .ret) .skip))))) (.ops [⟨0, (some 194), none, .mov (.t 13), []⟩, ⟨1, (some 195), none, .bin .add (.t 194) (.c (.int .i64 1)), []⟩, ⟨2, (some 13), none, .mov (.t 195), []⟩])))))) (.seq (.ops [⟨0, (some 234), none, .fad 0 (.t 1), []⟩, ⟨1, (some 235), none, .ld (.t 234), []⟩, ⟨2, (some 236), none, .fad 1 (.t 1), []⟩, ⟨3, (some 237), none, .ld (.t 236), []⟩, ⟨4, (some 238), none, .fad 2 (.t 1), []⟩, ⟨5, (some 239), none, .ld (.t 238), []⟩, ⟨6, (some 240), none, .mov (.t 5), []⟩, ⟨7, (some 241), none, .call (.c (.func (.func 21) #[] #[])) [.t 235, .t 237, .t 239, .t 240], []⟩, ⟨8, (some 233), none, .mov (.t 241), []⟩, ⟨9, (some 242), none, .ext (.t 233) 0, []⟩, ⟨10, (some 243), none, .ext (.t 233) 1, []⟩, ⟨11, (some 16), none, .mov (.t 242), []⟩, ⟨12, (some 17), none, .mov (.t 243), []⟩]) (.seq (.ops [⟨0, (some 245), none, .fad 0 (.t 1), []⟩, ⟨1, (some 246), none, .ld (.t 245), []⟩, ⟨2, (some 247), none, .fad 1 (.t 1), []⟩, ⟨3, (some 248), none, .ld (.t 247), []⟩, ⟨4, (some 249), none, .fad 2 (.t 1), []⟩, ⟨5, (some 250), none, .ld (.t 249), []⟩, ⟨6, (some 251), none, .mov (.t 5), []⟩, ⟨7, (some 252), none, .call (.c (.func (.func 24) #[] #[])) [.t 246, .t 248, .t 250, .t 251], []⟩, ⟨8, (some 244), none, .mov (.t 252), []⟩, ⟨9, (some 253), none, .ext (.t 244) 0, []⟩, ⟨10, (some 254), none, .ext (.t 244) 1, []⟩, ⟨11, (some 18), none, .mov (.t 253), []⟩, ⟨12, (some 19), none, .mov (.t 254), []⟩]) (.seq (.ops [⟨0, (some 255), none, .mov (.t 17), []⟩, ⟨1, (some 256), none, .bin .eql (.t 255) (.c (.int .i64 0)), []⟩, ⟨2, (some 257), none, .mov (.t 256), []⟩, ⟨3, (some 258), (some (257, true)), .mov (.t 19), []⟩, ⟨4, (some 259), (some (257, true)), .bin .eql (.t 258) (.c (.int .i64 0)), []⟩, ⟨5, (some 260), none, .pick (.t 257) (.t 259) (.c (.bool false)), []⟩, ⟨6, (some 261), none, .mov (.t 260), []⟩, ⟨7, (some 262), (some (261, true)), .mov (.t 16), []⟩, ⟨8, (some 263), (some (261, true)), .mov (.t 11), []⟩, ⟨9, (some 264), (some (261, true)), .call (.c (.func (.func 20) #[] #[])) [.t 262, .t 263], []⟩, ⟨10, (some 265), none, .pick (.t 261) (.t 264) (.c (.bool false)), []⟩, ⟨11, (some 266), none, .mov (.t 265), []⟩, ⟨12, (some 267), (some (266, true)), .mov (.t 18), []⟩, ⟨13, (some 268), (some (266, true)), .mov (.t 11), []⟩, ⟨14, (some 269), (some (266, true)), .call (.c (.func (.func 20) #[] #[])) [.t 267, .t 268], []⟩, ⟨15, (some 270), none, .pick (.t 266) (.t 269) (.c (.bool false)), []⟩, ⟨16, (some 271), none, .mov (.t 270), []⟩, ⟨17, (some 272), (some (271, true)), .mov (.t 5), []⟩, ⟨18, (some 273), (some (271, true)), .mov (.t 4), []⟩, ⟨19, (some 274), (some (271, true)), .call (.c (.func (.func 25) #[] #[])) [.t 272, .t 273], []⟩, ⟨20, (some 275), none, .pick (.t 271) (.t 274) (.c (.bool false)), []⟩, ⟨21, (some 2), none, .mov (.t 275), []⟩]) .ret))))))))))))))
attribute [irreducible] c_culletlaw19_MendRepairs
theorem run_culletlaw19_MendRepairs {args : List Value} {w : World} {K : Value → World → Prop} (hn : args.length ≤ 276) (h : WP Try.prog c_culletlaw19_MendRepairs (endQ [.t 2] K) (initT args) w) : CallV Try.prog 8 args w K :=
  call_of follows Try.func8 (by kernel_rfl) (by kernel_rfl) hn h
end Go.Proofs.Ytbaljbadlfopgaa.Fw
namespace Go.Proofs.Ytbaljbadlfopgaa.Fw
open Go Go.Fw
theorem prm_zero {f k m : Int} (hf : f = 0 ∨ f = 1) (hk : 1 ≤ k) (hm : 1 ≤ m) (hkm : k + m ≤ 256) : prm f k m = 0 := by
  unfold prm
  rw [if_neg (by omega), if_neg (by omega), if_neg (by omega), if_neg (by omega)]
theorem cnt_zero {f k m : Int} {n : Nat} (hf : f = 0 ∨ f = 1) (hk : 1 ≤ k) (hm : 1 ≤ m) (hkm : k + m ≤ 256) (hn : (n : Int) = k + m) : cnt f k m n = 0 := by
  unfold cnt
  rw [if_neg (fun h => h (prm_zero hf hk hm hkm)), if_neg (by omega)]
theorem wer_ok {f k m : Int} {L : Nat → Nat} {n len T : Nat} {ev : Bool} (hf : f = 0 ∨ f = 1) (hk : 1 ≤ k) (hm : 1 ≤ m) (hkm : k + m ≤ 256) (hn : (n : Int) = k + m) (hL : Lns L n len ev) (hT : 1 ≤ T) (hLT : ∀ j, j < n → L j = 0 ∨ L j = T) (hz : ((zis L n).length : Int) ≤ m) : wer f k m L n len ev = 0 ∧ len = T := by
  have hnp := prsL_len L n
  obtain ⟨a1, a2⟩ := prsL_get (L := L) (n := n) (i := 0) (by omega)
  have h0 : len ≠ 0 := fun e => a2 (hL.z.1 e _ a1)
  obtain ⟨j, hj, hj2⟩ := hL.m h0
  have hlT : len = T := by
    rcases hLT j hj with e | e
    · omega
    · omega
  have hev : ev = true := hL.e.2 fun i hi => by rw [hlT]; exact hLT i hi
  refine ⟨?_, hlT⟩
  unfold wer prt
  rw [if_pos hf, if_neg (fun h => h (cnt_zero hf hk hm hkm hn)), if_neg h0, hev, if_neg (by simp), if_neg (by unfold oddB; rw [decide_eq_false (by omega)]; simp), if_neg (by omega)]
theorem rowS_congr {f : Int} {k : Nat} {G G' : Nat → List (El 8)} {len s : Nat} (h : ∀ t, t < len → G t = G' t) : rowS f k G len s = rowS f k G' len s := by
  unfold rowS
  exact List.map_congr_left fun t ht => by rw [h t (List.mem_range.1 ht)]
def zc (R : Nat → List (El 8)) (n : Nat) : Nat := (zis (fun j => (R j).length) n).length
theorem zc_succ (R : Nat → List (El 8)) (n : Nat) : zc R (n + 1) = zc R n + if (R n).length = 0 then 1 else 0 := by
  unfold zc
  rw [zis_succ]
  split
  · rw [List.length_append, List.length_singleton]
  · rfl
theorem zc_congr {R R' : Nat → List (El 8)} : ∀ n, (∀ j, j < n → (R j).length = (R' j).length) → zc R n = zc R' n
  | 0, _ => rfl
  | n + 1, h => by rw [zc_succ, zc_succ, zc_congr n fun j hj => h j (by omega), h n (by omega)]
theorem zc_cut {R : Nat → List (El 8)} {i : Nat} (hi : R i ≠ []) : ∀ n, i < n → zc (fun y => if y = i then [] else R y) n = zc R n + 1
  | 0, h => absurd h (Nat.not_lt_zero _)
  | n + 1, h => by
    rw [zc_succ, zc_succ]
    by_cases e : n = i
    · subst e
      rw [zc_congr (R' := R) n fun j hj => by simp only [if_neg (show j ≠ n by omega)]]
      have h1 : (R n).length ≠ 0 := fun e => hi (List.length_eq_zero_iff.1 e)
      rw [if_pos (by simp), if_neg h1]
    · rw [zc_cut hi n (by omega)]
      simp only [if_neg e]
      omega
theorem zc_zero {R : Nat → List (El 8)} : ∀ n, (∀ j, j < n → R j ≠ []) → zc R n = 0
  | 0, _ => rfl
  | n + 1, h => by
    have h1 : (R n).length ≠ 0 := fun e => h n (by omega) (List.length_eq_zero_iff.1 e)
    rw [zc_succ, zc_zero n fun j hj => h j (by omega), if_neg h1]
theorem frm2 (w : World) {α : Type} [Cell α] (z : Nat) (s1 s2 : Value) (L1 L2 : List α) : Frm (fun w' => RowKit.Below w.heap.size w w' ∧ Ow z w' s1 L1 ∧ Ow z w' s2 L2) (fun b => w.heap.size ≤ b ∧ b < z) :=
  ⟨fun w1 w2 b h hb hg => ⟨h.1.grown hg h.1.size fun c hc => by cases hc; exact hb.1, h.2.1.gr' hg fun c hc e => by cases hc; have := (h.2.1.blk _ e).1; omega, h.2.2.gr' hg fun c hc e => by cases hc; have := (h.2.2.blk _ e).1; omega⟩,
   fun w1 w2 h hB => ⟨h.1.trans (hB.mono h.1.size), h.2.1.up hB, h.2.2.up hB⟩⟩
set_option maxHeartbeats 8000000 in
theorem culletlaw19_MendRepairs_spec (w : World) (f k m : Int) (sd lo wr : Value) (hsd : List Hd) (RS : Nat → List (El 8)) (Lo : List Int) (WR : List (List Value)) (h : Sl w sd hsd) (hr : ∀ j (hj : j < hsd.length), Sl w (Cell.v hsd[j]) (RS j)) (hlo : Sl w lo Lo) (hwr : Slw 3 w wr WR) (hq : ∀ vs ∈ WR, ∃ (a c : Int) (x : El 8), vs = [.int .i64 a, .int .i64 c, .int .u8 (x.v.toNat : Int)])
    (hLb : Lo.length ≤ 70368744175616) (hWb : WR.length ≤ 70368744175616) :
    CallV Try.prog 8 [.agg #[.int .i64 f, .int .i64 k, .int .i64 m, sd, lo, wr]] w fun v w' => v = .bool true ∧ RowKit.Below w.heap.size w w' := by
  refine run_culletlaw19_MendRepairs (by simp) ?_
  simp only [c_culletlaw19_MendRepairs, WS, List.getElem_cons_zero, List.getElem_cons_succ, Option.isNone_some, Option.isNone_none, List.getD_cons_zero, List.getD_cons_succ, I.at, atL, atO, atP, evp, evs, retV, ↓reduceIte, Nat.reduceEqDiff, reduceCtorEq]
  refine X_box fun b w1 hrb hlb hB => ?_
  have hrb : Row w1 b [.int .i64 f, .int .i64 k, .int .i64 m, sd, lo, wr] := hrb
  have B := hB
  have hr := fun j hj => (hr j hj).up hB
  have h := h.up hB
  have hlo := hlo.up hB
  have hwr := hwr.up hB
  clear hB hlb
  simp (maxSteps := 1000000) (disch := omega) only [WS, List.getElem_cons_zero, List.getElem_cons_succ, Option.isNone_some, Option.isNone_none, List.getD_cons_zero, List.getD_cons_succ, I.at, atL, atO, atP, evp, evs, retV, ↓reduceIte, Nat.reduceEqDiff, reduceCtorEq, AS]
  refine X_call0 ((culletlaw19_awake_spec w1).mono ?_)
  rintro _ w2 ⟨rfl, hB⟩
  have hr := fun j hj => (hr j hj).up hB
  have h := h.up hB
  have hrb := hrb.up hB
  have hlo := hlo.up hB
  have hwr := hwr.up hB
  have B := B.trans (hB.mono B.size)
  clear hB
  simp (maxSteps := 1000000) (disch := omega) only [WS, List.getElem_cons_zero, List.getElem_cons_succ, Option.isNone_some, Option.isNone_none, List.getD_cons_zero, List.getD_cons_succ, I.at, atL, atO, atP, evp, evs, retV, ↓reduceIte, Nat.reduceEqDiff, reduceCtorEq, AS, hrb.Xld (show 0 < _ by simp), hrb.Xld (show 1 < _ by simp), hrb.Xld (show 2 < _ by simp)]
  refine X_call0 ((culletlaw19_valid_spec w2 f k m).mono ?_)
  rintro _ w3 ⟨rfl, rfl⟩
  by_cases hv : (f = 0 ∨ f = 1) ∧ 1 ≤ k ∧ 1 ≤ m ∧ k ≤ 256 ∧ m ≤ 256 ∧ k + m ≤ 256
  rotate_left
  · simp (maxSteps := 1000000) (disch := omega) only [WS, List.getElem_cons_zero, List.getElem_cons_succ, Option.isNone_some, Option.isNone_none, List.getD_cons_zero, List.getD_cons_succ, I.at, atL, atO, atP, evp, evs, retV, ↓reduceIte, Nat.reduceEqDiff, reduceCtorEq, AS, decide_eq_false hv]
    exact B
  obtain ⟨hf, hk1, hm1, hk2, hm2, hkm⟩ := hv
  obtain ⟨K, rfl⟩ : ∃ K : Nat, k = (K : Int) := ⟨k.toNat, by omega⟩
  obtain ⟨M, rfl⟩ : ∃ M : Nat, m = (M : Int) := ⟨m.toNat, by omega⟩
  rw [decide_eq_true (⟨hf, hk1, hm1, hk2, hm2, hkm⟩ : (f = 0 ∨ f = 1) ∧ 1 ≤ (K : Int) ∧ 1 ≤ (M : Int) ∧ (K : Int) ≤ 256 ∧ (M : Int) ≤ 256 ∧ (K : Int) + (M : Int) ≤ 256)]
  by_cases hT0 : hsd.length = 0
  · simp (maxSteps := 1000000) (disch := omega) only [WS, List.getElem_cons_zero, List.getElem_cons_succ, Option.isNone_some, Option.isNone_none, List.getD_cons_zero, List.getD_cons_succ, I.at, atL, atO, atP, evp, evs, retV, ↓reduceIte, Nat.reduceEqDiff, reduceCtorEq, AS, hrb.Xld (show 3 < _ by simp), h.Xlen, hT0, show decide (((0 : Nat) : Int) = 0) = true from rfl]
    exact B
  have hT0' : ¬ (hsd.length : Int) = 0 := by omega
  by_cases hT2 : hsd.length > 64
  · simp (maxSteps := 1000000) (disch := omega) only [WS, List.getElem_cons_zero, List.getElem_cons_succ, Option.isNone_some, Option.isNone_none, List.getD_cons_zero, List.getD_cons_succ, I.at, atL, atO, atP, evp, evs, retV, ↓reduceIte, Nat.reduceEqDiff, reduceCtorEq, AS, hrb.Xld (show 3 < _ by simp), h.Xlen, hT0']
    exact B
  have eKM : IntKind.i64.wrap ((K : Int) + (M : Int)) = ((K + M : Nat) : Int) := by rw [wrap_id (by omega) (by omega)]; omega
  obtain ⟨n, hn⟩ : ∃ n, n = K + M := ⟨_, rfl⟩
  rw [← hn] at eKM
  have enn : IntKind.i64.wrap ((n : Int) * (n : Int)) = ((n * n : Nat) : Int) := by
    have : n * n ≤ 256 * 256 := Nat.mul_le_mul (by omega) (by omega)
    rw [wrap_id (by omega) (by omega)]; push_cast; rfl
  have ennT : IntKind.i64.wrap (((n * n : Nat) : Int) * (hsd.length : Int)) = ((n * n * hsd.length : Nat) : Int) := by
    have h1 : n * n ≤ 256 * 256 := Nat.mul_le_mul (by omega) (by omega)
    have h2 : n * n * hsd.length ≤ 256 * 256 * 64 := Nat.mul_le_mul h1 (by omega)
    rw [← Int.natCast_mul, wrap_id (by omega) (by omega)]
  by_cases hbig : n * n * hsd.length > 262144
  · simp (maxSteps := 1000000) (disch := omega) only [WS, List.getElem_cons_zero, List.getElem_cons_succ, Option.isNone_some, Option.isNone_none, List.getD_cons_zero, List.getD_cons_succ, I.at, atL, atO, atP, evp, evs, retV, ↓reduceIte, Nat.reduceEqDiff, reduceCtorEq, AS, hrb.Xld (show 1 < _ by simp), hrb.Xld (show 2 < _ by simp), hrb.Xld (show 3 < _ by simp), h.Xlen, hT0', eKM, enn, ennT]
    exact B
  simp (maxSteps := 1000000) (disch := omega) only [WS, List.getElem_cons_zero, List.getElem_cons_succ, Option.isNone_some, Option.isNone_none, List.getD_cons_zero, List.getD_cons_succ, I.at, atL, atO, atP, evp, evs, retV, ↓reduceIte, Nat.reduceEqDiff, reduceCtorEq, AS, hrb.Xld (show 1 < _ by simp), hrb.Xld (show 2 < _ by simp), hrb.Xld (show 3 < _ by simp), h.Xlen, hT0', eKM, enn, ennT, hrb.Xldn (n := 6) rfl]
  refine X_call0 ((culletlaw19_made_spec w3 f K M sd lo wr hsd RS h hr hf (by omega) (by omega) (by omega) (by omega) (by omega)).mono ?_)
  rintro sW w4 ⟨hB, hsW, G, lhW, hG, hW⟩
  have hr := fun j hj => (hr j hj).up hB
  have h := h.up hB
  have hrb := hrb.up hB
  have hlo := hlo.up hB
  have hwr := hwr.up hB
  have B := B.trans (hB.mono B.size)
  clear hB
  simp (maxSteps := 1000000) (disch := omega) only [WS, List.getElem_cons_zero, List.getElem_cons_succ, Option.isNone_some, Option.isNone_none, List.getD_cons_zero, List.getD_cons_succ, I.at, atL, atO, atP, evp, evs, retV, ↓reduceIte, Nat.reduceEqDiff, reduceCtorEq, AS]
  refine X_call0 ((culletlaw19_twin_spec w4 sW hsW (rowS f K G hsd.length) hW.top.sl (fun j hj => hW.sl hj) (by omega) (fun j hj => by rw [rowS_len]; omega)).mono ?_)
  rintro sl w5 ⟨hB5, hsL, lhL, hS⟩
  have hS := hS.frame (F' := fun w' => RowKit.Below w4.heap.size w4 w') hB5
  have hrb5 := hrb.up hB5
  have hlo5 := hlo.up hB5
  simp (maxSteps := 1000000) (disch := omega) only [WS, List.getElem_cons_zero, List.getElem_cons_succ, Option.isNone_some, Option.isNone_none, List.getD_cons_zero, List.getD_cons_succ, I.at, atL, atO, atP, evp, evs, retV, ↓reduceIte, Nat.reduceEqDiff, reduceCtorEq, AS, hrb5.Xld (show 4 < _ by simp), hlo5.Xlen]
  have hrn : ∀ j, rowS f K G hsd.length j ≠ [] := fun j => ne_of_len (rowS_len f K G hsd.length j) (by omega)
  refine loop_of (fun t w' => t 1 = .pointer (some ⟨b, 0, none⟩) ∧ t 3 = .int .i64 (n : Int) ∧ t 4 = sW ∧ t 5 = sl ∧ t 70 = lo ∧ t 71 = .int .i64 (Lo.length : Int) ∧ ∃ (i e : Nat) (hs' : List Hd) (R0 : Nat → List (El 8)), t 72 = .int .i64 (i : Int) ∧ i ≤ Lo.length ∧ t 6 = .int .i64 (e : Int) ∧ e ≤ M ∧ hs'.length = n ∧ (∀ j, j < n → R0 j = [] ∨ R0 j = rowS f K G hsd.length j) ∧ zc R0 n = e ∧ ShM w4.heap.size (fun w' => RowKit.Below w4.heap.size w4 w') (fun _ => []) sl hs' R0 w') (fun t _ => Lo.length - (toI (t 72)).toNat)
    ⟨by simp only [WS, List.getElem_cons_zero, List.getElem_cons_succ, Option.isNone_some, Option.isNone_none, List.getD_cons_zero, List.getD_cons_succ, I.at, atL, atO, atP, evp, evs, retV, ↓reduceIte, Nat.reduceEqDiff, reduceCtorEq], by simp only [WS, List.getElem_cons_zero, List.getElem_cons_succ, Option.isNone_some, Option.isNone_none, List.getD_cons_zero, List.getD_cons_succ, I.at, atL, atO, atP, evp, evs, retV, ↓reduceIte, Nat.reduceEqDiff, reduceCtorEq], by simp only [WS, List.getElem_cons_zero, List.getElem_cons_succ, Option.isNone_some, Option.isNone_none, List.getD_cons_zero, List.getD_cons_succ, I.at, atL, atO, atP, evp, evs, retV, ↓reduceIte, Nat.reduceEqDiff, reduceCtorEq], by simp only [WS, List.getElem_cons_zero, List.getElem_cons_succ, Option.isNone_some, Option.isNone_none, List.getD_cons_zero, List.getD_cons_succ, I.at, atL, atO, atP, evp, evs, retV, ↓reduceIte, Nat.reduceEqDiff, reduceCtorEq], by simp only [WS, List.getElem_cons_zero, List.getElem_cons_succ, Option.isNone_some, Option.isNone_none, List.getD_cons_zero, List.getD_cons_succ, I.at, atL, atO, atP, evp, evs, retV, ↓reduceIte, Nat.reduceEqDiff, reduceCtorEq], by simp only [WS, List.getElem_cons_zero, List.getElem_cons_succ, Option.isNone_some, Option.isNone_none, List.getD_cons_zero, List.getD_cons_succ, I.at, atL, atO, atP, evp, evs, retV, ↓reduceIte, Nat.reduceEqDiff, reduceCtorEq], 0, 0, hsL, _, by simp only [WS, List.getElem_cons_zero, List.getElem_cons_succ, Option.isNone_some, Option.isNone_none, List.getD_cons_zero, List.getD_cons_succ, I.at, atL, atO, atP, evp, evs, retV, ↓reduceIte, Nat.reduceEqDiff, reduceCtorEq]; rfl, by omega, by simp only [WS, List.getElem_cons_zero, List.getElem_cons_succ, Option.isNone_some, Option.isNone_none, List.getD_cons_zero, List.getD_cons_succ, I.at, atL, atO, atP, evp, evs, retV, ↓reduceIte, Nat.reduceEqDiff, reduceCtorEq]; rfl, by omega, by omega, fun j hj => Or.inr rfl, zc_zero n fun j hj => hrn j, hS⟩ ?_
  clear hS hrb5 hlo5
  rintro t w6 ⟨t1, t3, t4, t5, t70, t71, i, e, hs1, R0, t72, hi, t6, he, lh1, hR0, hz0, hS⟩
  have E := hS.frm
  have hrb6 := hrb.up E
  have hlo6 := hlo.up E
  by_cases hil : i < Lo.length
  · obtain ⟨p, hp⟩ : ∃ p, p = Lo[i] := ⟨_, rfl⟩
    by_cases p0 : p < 0
    · simp (maxSteps := 1000000) (disch := omega) only [WS, List.getElem_cons_zero, List.getElem_cons_succ, Option.isNone_some, Option.isNone_none, List.getD_cons_zero, List.getD_cons_succ, I.at, atL, atO, atP, evp, evs, retV, ↓reduceIte, Nat.reduceEqDiff, reduceCtorEq, AS, t1, t3, t4, t5, t70, t71, t72, t6, hlo6.Xix hil, hlo6.Xld hil, cell_int, ← hp]
      exact ⟨⟨i + 1, e, hs1, R0, rfl, by omega, rfl, he, lh1, hR0, hz0, hS⟩, by omega⟩
    by_cases p1 : p ≥ (n : Int)
    · simp (maxSteps := 1000000) (disch := omega) only [WS, List.getElem_cons_zero, List.getElem_cons_succ, Option.isNone_some, Option.isNone_none, List.getD_cons_zero, List.getD_cons_succ, I.at, atL, atO, atP, evp, evs, retV, ↓reduceIte, Nat.reduceEqDiff, reduceCtorEq, AS, t1, t3, t4, t5, t70, t71, t72, t6, hlo6.Xix hil, hlo6.Xld hil, cell_int, ← hp]
      exact ⟨⟨i + 1, e, hs1, R0, rfl, by omega, rfl, he, lh1, hR0, hz0, hS⟩, by omega⟩
    obtain ⟨P, hP⟩ : ∃ P : Nat, p = (P : Int) := ⟨p.toNat, by omega⟩
    have iP : P < hs1.length := by omega
    have hpl : Lo[i] = (P : Int) := by rw [← hp, hP]
    have hsl := hS.top.sl
    have hlnP := hS.ln iP
    by_cases hRP : R0 P = []
    · have e0 : hs1[P].n = 0 := by rw [hlnP, hRP]; rfl
      simp (maxSteps := 1000000) (disch := omega) only [WS, List.getElem_cons_zero, List.getElem_cons_succ, Option.isNone_some, Option.isNone_none, List.getD_cons_zero, List.getD_cons_succ, I.at, atL, atO, atP, evp, evs, retV, ↓reduceIte, Nat.reduceEqDiff, reduceCtorEq, AS, t1, t3, t4, t5, t70, t71, t72, t6, hlo6.Xix hil, hlo6.Xld hil, cell_int, hpl, hsl.Xix iP, hsl.Xld iP, cell_hd, X_lenS, e0, show decide (((0 : Nat) : Int) > 0) = false from rfl]
      exact ⟨⟨i + 1, e, hs1, R0, rfl, by omega, rfl, he, lh1, hR0, hz0, hS⟩, by omega⟩
    have e0 : hs1[P].n = hsd.length := by rw [hlnP, (hR0 P (by omega)).resolve_left hRP, rowS_len]
    by_cases heM : e < M
    rotate_left
    · simp (maxSteps := 1000000) (disch := omega) only [WS, List.getElem_cons_zero, List.getElem_cons_succ, Option.isNone_some, Option.isNone_none, List.getD_cons_zero, List.getD_cons_succ, I.at, atL, atO, atP, evp, evs, retV, ↓reduceIte, Nat.reduceEqDiff, reduceCtorEq, AS, t1, t3, t4, t5, t70, t71, t72, t6, hlo6.Xix hil, hlo6.Xld hil, cell_int, hpl, hsl.Xix iP, hsl.Xld iP, cell_hd, X_lenS, e0, hrb6.Xld (show 2 < _ by simp)]
      exact ⟨⟨i + 1, e, hs1, R0, rfl, by omega, rfl, he, lh1, hR0, hz0, hS⟩, by omega⟩
    simp (maxSteps := 1000000) (disch := omega) only [WS, List.getElem_cons_zero, List.getElem_cons_succ, Option.isNone_some, Option.isNone_none, List.getD_cons_zero, List.getD_cons_succ, I.at, atL, atO, atP, evp, evs, retV, ↓reduceIte, Nat.reduceEqDiff, reduceCtorEq, AS, t1, t3, t4, t5, t70, t71, t72, t6, hlo6.Xix hil, hlo6.Xld hil, cell_int, hpl, hsl.Xix iP, hsl.Xld iP, cell_hd, X_lenS, e0, hrb6.Xld (show 2 < _ by simp)]
    refine ShM.Xcut (frmB w4) hS iP (fun b hb => (hS.top.blk b hb).1) hdn rfl fun w7 c hS7 hg hc => ?_
    simp (maxSteps := 1000000) (disch := omega) only [WS, List.getElem_cons_zero, List.getElem_cons_succ, Option.isNone_some, Option.isNone_none, List.getD_cons_zero, List.getD_cons_succ, I.at, atL, atO, atP, evp, evs, retV, ↓reduceIte, Nat.reduceEqDiff, reduceCtorEq, AS, t1, t3, t4, t5, t70, t71, t72, t6]
    refine ⟨⟨i + 1, e + 1, _, _, rfl, by omega, rfl, by omega, by rw [List.length_set]; exact lh1, fun j hj => ?_, ?_, hS7⟩, by omega⟩
    · by_cases ej : j = P
      · simp only [if_pos ej]; exact Or.inl trivial
      · simp only [if_neg ej]; exact hR0 j hj
    · rw [zc_cut hRP n (by omega), hz0]
  have hwr6 := hwr.up E
  simp (maxSteps := 1000000) (disch := omega) only [WS, List.getElem_cons_zero, List.getElem_cons_succ, Option.isNone_some, Option.isNone_none, List.getD_cons_zero, List.getD_cons_succ, I.at, atL, atO, atP, evp, evs, retV, ↓reduceIte, Nat.reduceEqDiff, reduceCtorEq, AS, t1, t3, t4, t5, t70, t71, t72, t6, hrb6.Xld (show 5 < _ by simp), hwr6.Xlen]
  refine loop_of (fun t w' => t 1 = .pointer (some ⟨b, 0, none⟩) ∧ t 3 = .int .i64 (n : Int) ∧ t 4 = sW ∧ t 5 = sl ∧ t 6 = .int .i64 (e : Int) ∧ t 104 = wr ∧ t 105 = .int .i64 (WR.length : Int) ∧ ∃ (i : Nat) (Rw : Nat → List (El 8)), t 106 = .int .i64 (i : Int) ∧ i ≤ WR.length ∧ (∀ j, j < n → (Rw j).length = (R0 j).length) ∧ ShM w4.heap.size (fun w' => RowKit.Below w4.heap.size w4 w') (fun _ => []) sl hs1 Rw w') (fun t _ => WR.length - (toI (t 106)).toNat)
    ⟨by simp only [WS, List.getElem_cons_zero, List.getElem_cons_succ, Option.isNone_some, Option.isNone_none, List.getD_cons_zero, List.getD_cons_succ, I.at, atL, atO, atP, evp, evs, retV, ↓reduceIte, Nat.reduceEqDiff, reduceCtorEq]; exact t1, by simp only [WS, List.getElem_cons_zero, List.getElem_cons_succ, Option.isNone_some, Option.isNone_none, List.getD_cons_zero, List.getD_cons_succ, I.at, atL, atO, atP, evp, evs, retV, ↓reduceIte, Nat.reduceEqDiff, reduceCtorEq]; exact t3, by simp only [WS, List.getElem_cons_zero, List.getElem_cons_succ, Option.isNone_some, Option.isNone_none, List.getD_cons_zero, List.getD_cons_succ, I.at, atL, atO, atP, evp, evs, retV, ↓reduceIte, Nat.reduceEqDiff, reduceCtorEq]; exact t4, by simp only [WS, List.getElem_cons_zero, List.getElem_cons_succ, Option.isNone_some, Option.isNone_none, List.getD_cons_zero, List.getD_cons_succ, I.at, atL, atO, atP, evp, evs, retV, ↓reduceIte, Nat.reduceEqDiff, reduceCtorEq]; exact t5, by simp only [WS, List.getElem_cons_zero, List.getElem_cons_succ, Option.isNone_some, Option.isNone_none, List.getD_cons_zero, List.getD_cons_succ, I.at, atL, atO, atP, evp, evs, retV, ↓reduceIte, Nat.reduceEqDiff, reduceCtorEq]; exact t6, by simp only [WS, List.getElem_cons_zero, List.getElem_cons_succ, Option.isNone_some, Option.isNone_none, List.getD_cons_zero, List.getD_cons_succ, I.at, atL, atO, atP, evp, evs, retV, ↓reduceIte, Nat.reduceEqDiff, reduceCtorEq], by simp only [WS, List.getElem_cons_zero, List.getElem_cons_succ, Option.isNone_some, Option.isNone_none, List.getD_cons_zero, List.getD_cons_succ, I.at, atL, atO, atP, evp, evs, retV, ↓reduceIte, Nat.reduceEqDiff, reduceCtorEq], 0, R0, by simp only [WS, List.getElem_cons_zero, List.getElem_cons_succ, Option.isNone_some, Option.isNone_none, List.getD_cons_zero, List.getD_cons_succ, I.at, atL, atO, atP, evp, evs, retV, ↓reduceIte, Nat.reduceEqDiff, reduceCtorEq]; rfl, by omega, fun _ _ => rfl, hS⟩ ?_
  clear t1 t3 t4 t5 t6 t70 t71 t72 hS E hrb6 hlo6 hwr6 hil hi
  rintro t w7 ⟨t1, t3, t4, t5, t6, t104, t105, i, Rw, t106, hi, hRw, hS⟩
  have E := hS.frm
  have hrb7 := hrb.up E
  have hwr7 := hwr.up E
  by_cases hil : i < WR.length
  · obtain ⟨cc, sh, mx, hvs⟩ := hq _ (List.getElem_mem hil)
    simp (maxSteps := 1000000) (disch := omega) only [WS, List.getElem_cons_zero, List.getElem_cons_succ, Option.isNone_some, Option.isNone_none, List.getD_cons_zero, List.getD_cons_succ, I.at, atL, atO, atP, evp, evs, retV, ↓reduceIte, Nat.reduceEqDiff, reduceCtorEq, AS, t1, t3, t4, t5, t6, t104, t105, t106, hwr7.Xix hil, hwr7.Xldn hil]
    rw [hvs]
    refine X_alloc fun b10 w8 r10 hb10 hB8 => ?_
    simp (maxSteps := 1000000) (disch := omega) only [WS, List.getElem_cons_zero, List.getElem_cons_succ, Option.isNone_some, Option.isNone_none, List.getD_cons_zero, List.getD_cons_succ, I.at, atL, atO, atP, evp, evs, retV, ↓reduceIte, Nat.reduceEqDiff, reduceCtorEq, AS, t1, t3, t4, t5, t6, t104, t105, t106]
    refine Row.Xstn (vs := [.int .i64 cc, .int .i64 sh, .int .u8 (mx.v.toNat : Int)]) r10 rfl (by simp [scal]) (by simp) fun w9 r10 hg => ?_
    have hB9 := Below.row hB8 hb10 hg
    have hS9 := hS.up (frmB w4) hB9
    clear hg hB8
    have r10 : Row w9 b10 [.int .i64 cc, .int .i64 sh, .int .u8 (mx.v.toNat : Int)] := r10
    have E9 := hS9.frm
    have hrb9 := hrb.up E9
    have h9 := h.up E9
    have fin : ∀ (w' : World), ShM w4.heap.size (fun w' => RowKit.Below w4.heap.size w4 w') (fun _ => []) sl hs1 Rw w' → True := fun _ _ => trivial
    by_cases s0 : sh < 0
    · simp (maxSteps := 1000000) (disch := omega) only [WS, List.getElem_cons_zero, List.getElem_cons_succ, Option.isNone_some, Option.isNone_none, List.getD_cons_zero, List.getD_cons_succ, I.at, atL, atO, atP, evp, evs, retV, ↓reduceIte, Nat.reduceEqDiff, reduceCtorEq, AS, t1, t3, t4, t5, t6, t104, t105, t106, r10.Xld (show 1 < _ by simp)]
      exact ⟨⟨i + 1, Rw, rfl, by omega, hRw, hS9⟩, by omega⟩
    by_cases s1 : sh ≥ (n : Int)
    · simp (maxSteps := 1000000) (disch := omega) only [WS, List.getElem_cons_zero, List.getElem_cons_succ, Option.isNone_some, Option.isNone_none, List.getD_cons_zero, List.getD_cons_succ, I.at, atL, atO, atP, evp, evs, retV, ↓reduceIte, Nat.reduceEqDiff, reduceCtorEq, AS, t1, t3, t4, t5, t6, t104, t105, t106, r10.Xld (show 1 < _ by simp)]
      exact ⟨⟨i + 1, Rw, rfl, by omega, hRw, hS9⟩, by omega⟩
    by_cases c0 : cc < 0
    · simp (maxSteps := 1000000) (disch := omega) only [WS, List.getElem_cons_zero, List.getElem_cons_succ, Option.isNone_some, Option.isNone_none, List.getD_cons_zero, List.getD_cons_succ, I.at, atL, atO, atP, evp, evs, retV, ↓reduceIte, Nat.reduceEqDiff, reduceCtorEq, AS, t1, t3, t4, t5, t6, t104, t105, t106, r10.Xld (show 1 < _ by simp), r10.Xld (show 0 < _ by simp)]
      exact ⟨⟨i + 1, Rw, rfl, by omega, hRw, hS9⟩, by omega⟩
    by_cases c1 : cc ≥ (hsd.length : Int)
    · simp (maxSteps := 1000000) (disch := omega) only [WS, List.getElem_cons_zero, List.getElem_cons_succ, Option.isNone_some, Option.isNone_none, List.getD_cons_zero, List.getD_cons_succ, I.at, atL, atO, atP, evp, evs, retV, ↓reduceIte, Nat.reduceEqDiff, reduceCtorEq, AS, t1, t3, t4, t5, t6, t104, t105, t106, r10.Xld (show 1 < _ by simp), r10.Xld (show 0 < _ by simp), hrb9.Xld (show 3 < _ by simp), h9.Xlen]
      exact ⟨⟨i + 1, Rw, rfl, by omega, hRw, hS9⟩, by omega⟩
    obtain ⟨S, rfl⟩ : ∃ S : Nat, sh = (S : Int) := ⟨sh.toNat, by omega⟩
    obtain ⟨C, rfl⟩ : ∃ C : Nat, cc = (C : Int) := ⟨cc.toNat, by omega⟩
    have iS : S < hs1.length := by omega
    have hsl := hS9.top.sl
    have hlnS := hS9.ln iS
    by_cases hRS : Rw S = []
    · have e0 : hs1[S].n = 0 := by rw [hlnS, hRS]; rfl
      simp (maxSteps := 1000000) (disch := omega) only [WS, List.getElem_cons_zero, List.getElem_cons_succ, Option.isNone_some, Option.isNone_none, List.getD_cons_zero, List.getD_cons_succ, I.at, atL, atO, atP, evp, evs, retV, ↓reduceIte, Nat.reduceEqDiff, reduceCtorEq, AS, t1, t3, t4, t5, t6, t104, t105, t106, r10.Xld (show 1 < _ by simp), r10.Xld (show 0 < _ by simp), hrb9.Xld (show 3 < _ by simp), h9.Xlen, hsl.Xix iS, hsl.Xld iS, cell_hd, X_lenS, e0, show decide (((0 : Nat) : Int) = 0) = true from rfl]
      exact ⟨⟨i + 1, Rw, rfl, by omega, hRw, hS9⟩, by omega⟩
    have hlS : (Rw S).length = hsd.length := by
      rw [hRw S (by omega)]
      rcases hR0 S (by omega) with e1 | e1
      · exact absurd (List.length_eq_zero_iff.1 (by rw [hRw S (by omega), e1]; rfl)) hRS
      · rw [e1, rowS_len]
    have e0 : hs1[S].n = hsd.length := by rw [hlnS, hlS]
    simp (maxSteps := 1000000) (disch := omega) only [WS, List.getElem_cons_zero, List.getElem_cons_succ, Option.isNone_some, Option.isNone_none, List.getD_cons_zero, List.getD_cons_succ, I.at, atL, atO, atP, evp, evs, retV, ↓reduceIte, Nat.reduceEqDiff, reduceCtorEq, AS, t1, t3, t4, t5, t6, t104, t105, t106, r10.Xld (show 1 < _ by simp), r10.Xld (show 0 < _ by simp), hrb9.Xld (show 3 < _ by simp), h9.Xlen, hsl.Xix iS, hsl.Xld iS, cell_hd, X_lenS, e0, hT0']
    refine WP_dops ?_
    have bd := bel_drew w9
    have hS9 := hS9.up (frmB w4) bd
    have r10 := r10.up bd
    clear bd hsl
    have hsl := hS9.top.sl
    have sS := hS9.sl iS
    have iC : C < (Rw S).length := by omega
    simp (maxSteps := 1000000) (disch := omega) only [ES, List.mem_cons, List.not_mem_nil, implies_true, forall_const, WS, List.getElem_cons_zero, List.getElem_cons_succ, Option.isNone_some, Option.isNone_none, List.getD_cons_zero, List.getD_cons_succ, I.at, atL, atO, atP, evp, evs, retV, ↓reduceIte, Nat.reduceEqDiff, reduceCtorEq, AS, t1, t3, t4, t5, t6, t104, t105, t106, r10.Eld (show 0 < _ by simp), r10.Eld (show 1 < _ by simp), r10.Eld (show 2 < _ by simp), hsl.Eix iS, hsl.Eld iS, sS.Eix iC, sS.Eld iC, cell_e8, xor8]
    refine hS9.Est (frmB w4) iS iC (fun b hb => frmB_D hS9 S iS b hRS hb) ((Rw S)[C] + mx) fun w10 c hS10 hg hc => ?_
    simp (maxSteps := 1000000) (disch := omega) only [ES, List.mem_cons, List.not_mem_nil, implies_true, forall_const, WS, List.getElem_cons_zero, List.getElem_cons_succ, Option.isNone_some, Option.isNone_none, List.getD_cons_zero, List.getD_cons_succ, I.at, atL, atO, atP, evp, evs, retV, ↓reduceIte, Nat.reduceEqDiff, reduceCtorEq, AS, t1, t3, t4, t5, t6, t104, t105, t106]
    refine ⟨⟨i + 1, _, rfl, by omega, fun j hj => ?_, hS10⟩, by omega⟩
    by_cases ej : j = S
    · simp only [if_pos ej]; rw [List.length_set, ej]; exact hRw S (by omega)
    · simp only [if_neg ej]; exact hRw j hj
  have hlt : ∀ j, j < n → (Rw j).length = 0 ∨ (Rw j).length = hsd.length := fun j hj => by
    rw [hRw j hj]
    rcases hR0 j hj with e1 | e1
    · rw [e1]; exact Or.inl rfl
    · rw [e1, rowS_len]; exact Or.inr rfl
  have hLn : ∀ j, j < n → hln hs1 j = (Rw j).length := fun j hj => hln_row (fun j hj => hS.sl hj) (by omega)
  have hzL : (zis (hln hs1) n).length = e := by
    rw [← hz0]
    have : ∀ q, q ≤ n → (zis (hln hs1) q).length = zc R0 q := fun q => by
      induction q with
      | zero => intro _; rfl
      | succ q ih =>
        intro hq
        rw [zis_succ, zc_succ, hLn q (by omega), hRw q (by omega)]
        split
        · rw [List.length_append, List.length_singleton, ih (by omega)]
        · rw [ih (by omega)]; rfl
    exact this n (Nat.le_refl _)
  have hnp := prsL_len (hln hs1) n
  have lh1' : ((hs1.length : Nat) : Int) = (n : Int) := by rw [lh1]
  have hW7 := hW.up (frmT fun _ => True) E
  have z7 := E.size
  clear hRw hR0 hz0
  simp (maxSteps := 1000000) (disch := omega) only [WS, List.getElem_cons_zero, List.getElem_cons_succ, Option.isNone_some, Option.isNone_none, List.getD_cons_zero, List.getD_cons_succ, I.at, atL, atO, atP, evp, evs, retV, ↓reduceIte, Nat.reduceEqDiff, reduceCtorEq, AS, t1, t3, t4, t5, t6, t104, t105, t106]
  refine loop_of (fun t w' => t 1 = .pointer (some ⟨b, 0, none⟩) ∧ t 3 = .int .i64 (n : Int) ∧ t 4 = sW ∧ t 5 = sl ∧ t 6 = .int .i64 (e : Int) ∧ RowKit.Below w7.heap.size w7 w' ∧ ∃ (i : Nat) (sr : Value), t 12 = .int .i64 (i : Int) ∧ i ≤ n ∧ t 11 = sr ∧ Ow w7.heap.size w' sr (((prsL (hln hs1) i).filter fun s => !decide (Rw s = rowS f K G hsd.length s)).map fun (j : Nat) => (j : Int))) (fun t _ => n - (toI (t 12)).toNat)
    ⟨by simp only [WS, List.getElem_cons_zero, List.getElem_cons_succ, Option.isNone_some, Option.isNone_none, List.getD_cons_zero, List.getD_cons_succ, I.at, atL, atO, atP, evp, evs, retV, ↓reduceIte, Nat.reduceEqDiff, reduceCtorEq]; exact t1, by simp only [WS, List.getElem_cons_zero, List.getElem_cons_succ, Option.isNone_some, Option.isNone_none, List.getD_cons_zero, List.getD_cons_succ, I.at, atL, atO, atP, evp, evs, retV, ↓reduceIte, Nat.reduceEqDiff, reduceCtorEq]; exact t3, by simp only [WS, List.getElem_cons_zero, List.getElem_cons_succ, Option.isNone_some, Option.isNone_none, List.getD_cons_zero, List.getD_cons_succ, I.at, atL, atO, atP, evp, evs, retV, ↓reduceIte, Nat.reduceEqDiff, reduceCtorEq]; exact t4, by simp only [WS, List.getElem_cons_zero, List.getElem_cons_succ, Option.isNone_some, Option.isNone_none, List.getD_cons_zero, List.getD_cons_succ, I.at, atL, atO, atP, evp, evs, retV, ↓reduceIte, Nat.reduceEqDiff, reduceCtorEq]; exact t5, by simp only [WS, List.getElem_cons_zero, List.getElem_cons_succ, Option.isNone_some, Option.isNone_none, List.getD_cons_zero, List.getD_cons_succ, I.at, atL, atO, atP, evp, evs, retV, ↓reduceIte, Nat.reduceEqDiff, reduceCtorEq]; exact t6, RowKit.Below.refl _ _, 0, .slice none 0 0, by simp only [WS, List.getElem_cons_zero, List.getElem_cons_succ, Option.isNone_some, Option.isNone_none, List.getD_cons_zero, List.getD_cons_succ, I.at, atL, atO, atP, evp, evs, retV, ↓reduceIte, Nat.reduceEqDiff, reduceCtorEq]; rfl, by omega, by simp only [WS, List.getElem_cons_zero, List.getElem_cons_succ, Option.isNone_some, Option.isNone_none, List.getD_cons_zero, List.getD_cons_succ, I.at, atL, atO, atP, evp, evs, retV, ↓reduceIte, Nat.reduceEqDiff, reduceCtorEq], Or.inl ⟨rfl, rfl⟩⟩ ?_
  clear t1 t3 t4 t5 t6 t104 t105 t106
  rintro t w8 ⟨t1, t3, t4, t5, t6, D, i2, sr, t12, hi2, t11, or⟩
  by_cases hin : i2 < n
  · have iS : i2 < hs1.length := by omega
    have iW : i2 < hsW.length := by omega
    have pi := prsL_succ (hln hs1) i2
    have hpl : (((prsL (hln hs1) i2).filter fun s => !decide (Rw s = rowS f K G hsd.length s)).map fun (j : Nat) => (j : Int)).length ≤ i2 := by
      rw [List.length_map]
      have := List.length_filter_le (fun s => !decide (Rw s = rowS f K G hsd.length s)) (prsL (hln hs1) i2)
      have := prsL_len (hln hs1) i2
      omega
    simp (maxSteps := 1000000) (disch := omega) only [WS, List.getElem_cons_zero, List.getElem_cons_succ, Option.isNone_some, Option.isNone_none, List.getD_cons_zero, List.getD_cons_succ, I.at, atL, atO, atP, evp, evs, retV, ↓reduceIte, Nat.reduceEqDiff, reduceCtorEq, AS, t1, t3, t4, t5, t6, t12, t11]
    refine WP_dops ?_
    have bd := bel_drew w8
    have D := D.trans (bd.mono D.size)
    have or := or.up bd
    clear bd
    have hS8 := hS.up (frmB w4) D
    have hW8 := hW7.up (frmT fun _ => True) D
    have sS := hS8.sl iS
    have sW' := hW8.sl iW
    by_cases h0 : (Rw i2).length = 0
    · rw [if_pos (by rw [hLn i2 hin]; exact h0)] at pi
      simp (maxSteps := 1000000) (disch := omega) only [ES, List.mem_cons, List.not_mem_nil, implies_true, forall_const, WS, List.getElem_cons_zero, List.getElem_cons_succ, Option.isNone_some, Option.isNone_none, List.getD_cons_zero, List.getD_cons_succ, I.at, atL, atO, atP, evp, evs, retV, ↓reduceIte, Nat.reduceEqDiff, reduceCtorEq, AS, t1, t3, t4, t5, t6, t12, t11, hS8.top.sl.Eix iS, hS8.top.sl.Eld iS, sS.Elen, h0, show decide (((0 : Nat) : Int) > 0) = false from rfl]
      exact ⟨⟨D, i2 + 1, sr, rfl, by omega, rfl, by rw [pi]; exact or⟩, by omega⟩
    rw [if_neg (by rw [hLn i2 hin]; exact h0)] at pi
    have hlw := (hlt i2 hin).resolve_left h0
    simp (maxSteps := 1000000) (disch := omega) only [ES, List.mem_cons, List.not_mem_nil, implies_true, forall_const, WS, List.getElem_cons_zero, List.getElem_cons_succ, Option.isNone_some, Option.isNone_none, List.getD_cons_zero, List.getD_cons_succ, I.at, atL, atO, atP, evp, evs, retV, ↓reduceIte, Nat.reduceEqDiff, reduceCtorEq, AS, t1, t3, t4, t5, t6, t12, t11, hS8.top.sl.Eix iS, hS8.top.sl.Eld iS, sS.Elen, hW8.top.sl.Eix iW, hW8.top.sl.Eld iW]
    refine E_call0 ((culletlaw19_sameBytes_spec w8.drew _ _ _ _ sS sW' (by omega) (by rw [rowS_len]; omega)).mono ?_)
    rintro _ w9 ⟨rfl, hk⟩
    have D := D.trans (hk.1.mono D.size)
    have or := or.up hk.1
    clear hk
    by_cases he2 : Rw i2 = rowS f K G hsd.length i2
    · simp (maxSteps := 1000000) (disch := omega) only [ES, List.mem_cons, List.not_mem_nil, implies_true, forall_const, WS, List.getElem_cons_zero, List.getElem_cons_succ, Option.isNone_some, Option.isNone_none, List.getD_cons_zero, List.getD_cons_succ, I.at, atL, atO, atP, evp, evs, retV, ↓reduceIte, Nat.reduceEqDiff, reduceCtorEq, AS, decide_eq_true he2, t1, t3, t4, t5, t6, t12, t11]
      refine ⟨⟨D, i2 + 1, sr, rfl, by omega, rfl, ?_⟩, by omega⟩
      rw [pi, List.filter_append]
      simp only [List.filter_cons, List.filter_nil, he2, decide_true, Bool.not_true, Bool.false_eq_true, if_false, List.append_nil]
      exact or
    · simp (maxSteps := 1000000) (disch := omega) only [ES, List.mem_cons, List.not_mem_nil, implies_true, forall_const, WS, List.getElem_cons_zero, List.getElem_cons_succ, Option.isNone_some, Option.isNone_none, List.getD_cons_zero, List.getD_cons_succ, I.at, atL, atO, atP, evp, evs, retV, ↓reduceIte, Nat.reduceEqDiff, reduceCtorEq, AS, decide_eq_false he2, t1, t3, t4, t5, t6, t12, t11]
      refine X_bsl (zs := [(i2 : Int)]) (by rfl) (by rfl) fun e1 w9 oe hB => ?_
      have D := D.trans (hB.mono D.size)
      have or := or.up hB
      clear hB
      simp (maxSteps := 1000000) (disch := omega) only [WS, List.getElem_cons_zero, List.getElem_cons_succ, Option.isNone_some, Option.isNone_none, List.getD_cons_zero, List.getD_cons_succ, I.at, atL, atO, atP, evp, evs, retV, ↓reduceIte, Nat.reduceEqDiff, reduceCtorEq, AS, t1, t3, t4, t5, t6, t12, t11]
      refine Ow.Xapp or oe.sl D.size (by simp only [List.length_singleton, maxBytes]; omega) (by simp only [List.length_singleton]; omega) fun e2 w10 or2 hg _ => ?_
      have D := Below.app D D.size hg fun b hb => (or.blk b hb).1
      simp (maxSteps := 1000000) (disch := omega) only [WS, List.getElem_cons_zero, List.getElem_cons_succ, Option.isNone_some, Option.isNone_none, List.getD_cons_zero, List.getD_cons_succ, I.at, atL, atO, atP, evp, evs, retV, ↓reduceIte, Nat.reduceEqDiff, reduceCtorEq, AS, t1, t3, t4, t5, t6, t12]
      refine ⟨⟨D, i2 + 1, e2, rfl, by omega, rfl, ?_⟩, by omega⟩
      rw [pi, List.filter_append, List.map_append]
      simp only [List.filter_cons, List.filter_nil, he2, decide_false, Bool.not_false, if_true, List.map_cons, List.map_nil]
      exact or2
  obtain rfl : i2 = n := by omega
  have hS8 := hS.up (frmB w4) D
  have hW8 := hW7.up (frmT fun _ => True) D
  have hrb8 := hrb.up hS8.frm
  have h8 := h.up hS8.frm
  have zD := D.size
  simp (maxSteps := 1000000) (disch := omega) only [WS, List.getElem_cons_zero, List.getElem_cons_succ, Option.isNone_some, Option.isNone_none, List.getD_cons_zero, List.getD_cons_succ, I.at, atL, atO, atP, evp, evs, retV, ↓reduceIte, Nat.reduceEqDiff, reduceCtorEq, AS, t1, t3, t4, t5, t6, t12, t11]
  refine loop_of (fun t w' => t 1 = .pointer (some ⟨b, 0, none⟩) ∧ t 3 = .int .i64 (i2 : Int) ∧ t 4 = sW ∧ t 5 = sl ∧ t 6 = .int .i64 (e : Int) ∧ t 11 = sr ∧ RowKit.Below w8.heap.size w8 w' ∧ ∃ x : Nat, t 13 = .int .i64 (x : Int) ∧ x ≤ hsd.length ∧ ∀ y, y < x → ((prsL (hln hs1) i2).filter fun s => !decide (nth (Rw s) y = valS f K (G y) s)).length ≤ (M - e) / 2) (fun t _ => hsd.length - (toI (t 13)).toNat)
    ⟨by simp only [WS, List.getElem_cons_zero, List.getElem_cons_succ, Option.isNone_some, Option.isNone_none, List.getD_cons_zero, List.getD_cons_succ, I.at, atL, atO, atP, evp, evs, retV, ↓reduceIte, Nat.reduceEqDiff, reduceCtorEq]; exact t1, by simp only [WS, List.getElem_cons_zero, List.getElem_cons_succ, Option.isNone_some, Option.isNone_none, List.getD_cons_zero, List.getD_cons_succ, I.at, atL, atO, atP, evp, evs, retV, ↓reduceIte, Nat.reduceEqDiff, reduceCtorEq]; exact t3, by simp only [WS, List.getElem_cons_zero, List.getElem_cons_succ, Option.isNone_some, Option.isNone_none, List.getD_cons_zero, List.getD_cons_succ, I.at, atL, atO, atP, evp, evs, retV, ↓reduceIte, Nat.reduceEqDiff, reduceCtorEq]; exact t4, by simp only [WS, List.getElem_cons_zero, List.getElem_cons_succ, Option.isNone_some, Option.isNone_none, List.getD_cons_zero, List.getD_cons_succ, I.at, atL, atO, atP, evp, evs, retV, ↓reduceIte, Nat.reduceEqDiff, reduceCtorEq]; exact t5, by simp only [WS, List.getElem_cons_zero, List.getElem_cons_succ, Option.isNone_some, Option.isNone_none, List.getD_cons_zero, List.getD_cons_succ, I.at, atL, atO, atP, evp, evs, retV, ↓reduceIte, Nat.reduceEqDiff, reduceCtorEq]; exact t6, by simp only [WS, List.getElem_cons_zero, List.getElem_cons_succ, Option.isNone_some, Option.isNone_none, List.getD_cons_zero, List.getD_cons_succ, I.at, atL, atO, atP, evp, evs, retV, ↓reduceIte, Nat.reduceEqDiff, reduceCtorEq]; exact t11, RowKit.Below.refl _ _, 0, by simp only [WS, List.getElem_cons_zero, List.getElem_cons_succ, Option.isNone_some, Option.isNone_none, List.getD_cons_zero, List.getD_cons_succ, I.at, atL, atO, atP, evp, evs, retV, ↓reduceIte, Nat.reduceEqDiff, reduceCtorEq]; rfl, by omega, fun y hy => absurd hy (Nat.not_lt_zero _)⟩ ?_
  clear t1 t3 t4 t5 t6 t12 t11 hin hi2
  rintro t w9 ⟨t1, t3, t4, t5, t6, t11, E2, x, t13, hx, hcnt⟩
  have h9 := h8.up E2
  have hrb9 := hrb8.up E2
  by_cases hxl : x < hsd.length
  · simp (maxSteps := 1000000) (disch := omega) only [WS, List.getElem_cons_zero, List.getElem_cons_succ, Option.isNone_some, Option.isNone_none, List.getD_cons_zero, List.getD_cons_succ, I.at, atL, atO, atP, evp, evs, retV, ↓reduceIte, Nat.reduceEqDiff, reduceCtorEq, AS, t1, t3, t4, t5, t6, t11, t13, hrb9.Xld (show 3 < _ by simp), h9.Xlen]
    refine loop_of (fun t w' => t 1 = .pointer (some ⟨b, 0, none⟩) ∧ t 3 = .int .i64 (i2 : Int) ∧ t 4 = sW ∧ t 5 = sl ∧ t 6 = .int .i64 (e : Int) ∧ t 11 = sr ∧ t 13 = .int .i64 (x : Int) ∧ RowKit.Below w8.heap.size w8 w' ∧ ∃ i : Nat, t 15 = .int .i64 (i : Int) ∧ i ≤ i2 ∧ t 14 = .int .i64 (((prsL (hln hs1) i).filter fun s => !decide (nth (Rw s) x = valS f K (G x) s)).length : Int)) (fun t _ => i2 - (toI (t 15)).toNat)
      ⟨by simp only [WS, List.getElem_cons_zero, List.getElem_cons_succ, Option.isNone_some, Option.isNone_none, List.getD_cons_zero, List.getD_cons_succ, I.at, atL, atO, atP, evp, evs, retV, ↓reduceIte, Nat.reduceEqDiff, reduceCtorEq]; exact t1, by simp only [WS, List.getElem_cons_zero, List.getElem_cons_succ, Option.isNone_some, Option.isNone_none, List.getD_cons_zero, List.getD_cons_succ, I.at, atL, atO, atP, evp, evs, retV, ↓reduceIte, Nat.reduceEqDiff, reduceCtorEq]; exact t3, by simp only [WS, List.getElem_cons_zero, List.getElem_cons_succ, Option.isNone_some, Option.isNone_none, List.getD_cons_zero, List.getD_cons_succ, I.at, atL, atO, atP, evp, evs, retV, ↓reduceIte, Nat.reduceEqDiff, reduceCtorEq]; exact t4, by simp only [WS, List.getElem_cons_zero, List.getElem_cons_succ, Option.isNone_some, Option.isNone_none, List.getD_cons_zero, List.getD_cons_succ, I.at, atL, atO, atP, evp, evs, retV, ↓reduceIte, Nat.reduceEqDiff, reduceCtorEq]; exact t5, by simp only [WS, List.getElem_cons_zero, List.getElem_cons_succ, Option.isNone_some, Option.isNone_none, List.getD_cons_zero, List.getD_cons_succ, I.at, atL, atO, atP, evp, evs, retV, ↓reduceIte, Nat.reduceEqDiff, reduceCtorEq]; exact t6, by simp only [WS, List.getElem_cons_zero, List.getElem_cons_succ, Option.isNone_some, Option.isNone_none, List.getD_cons_zero, List.getD_cons_succ, I.at, atL, atO, atP, evp, evs, retV, ↓reduceIte, Nat.reduceEqDiff, reduceCtorEq]; exact t11, by simp only [WS, List.getElem_cons_zero, List.getElem_cons_succ, Option.isNone_some, Option.isNone_none, List.getD_cons_zero, List.getD_cons_succ, I.at, atL, atO, atP, evp, evs, retV, ↓reduceIte, Nat.reduceEqDiff, reduceCtorEq]; exact t13, E2, 0, by simp only [WS, List.getElem_cons_zero, List.getElem_cons_succ, Option.isNone_some, Option.isNone_none, List.getD_cons_zero, List.getD_cons_succ, I.at, atL, atO, atP, evp, evs, retV, ↓reduceIte, Nat.reduceEqDiff, reduceCtorEq]; rfl, by omega, by simp only [WS, List.getElem_cons_zero, List.getElem_cons_succ, Option.isNone_some, Option.isNone_none, List.getD_cons_zero, List.getD_cons_succ, I.at, atL, atO, atP, evp, evs, retV, ↓reduceIte, Nat.reduceEqDiff, reduceCtorEq]; rfl⟩ ?_
    clear t1 t3 t4 t5 t6 t11 t13 E2 h9 hrb9
    rintro t w10 ⟨t1, t3, t4, t5, t6, t11, t13, E2, i, t15, hi, t14⟩
    by_cases hil : i < i2
    · have iS : i < hs1.length := by omega
      have iW : i < hsW.length := by omega
      have pi := prsL_succ (hln hs1) i
      have hpl : ((prsL (hln hs1) i).filter fun s => !decide (nth (Rw s) x = valS f K (G x) s)).length ≤ i := by
        have := List.length_filter_le (fun s => !decide (nth (Rw s) x = valS f K (G x) s)) (prsL (hln hs1) i)
        have := prsL_len (hln hs1) i
        omega
      simp (maxSteps := 1000000) (disch := omega) only [WS, List.getElem_cons_zero, List.getElem_cons_succ, Option.isNone_some, Option.isNone_none, List.getD_cons_zero, List.getD_cons_succ, I.at, atL, atO, atP, evp, evs, retV, ↓reduceIte, Nat.reduceEqDiff, reduceCtorEq, AS, t1, t3, t4, t5, t6, t11, t13, t15, t14]
      refine WP_dops ?_
      have bd := bel_drew w10
      have E2 := E2.trans (bd.mono E2.size)
      clear bd
      have hS10 := hS8.up (frmB w4) E2
      have hW10 := hW8.up (frmT fun _ => True) E2
      have sS := hS10.sl iS
      have sW' := hW10.sl iW
      by_cases h0 : (Rw i).length = 0
      · rw [if_pos (by rw [hLn i hil]; exact h0)] at pi
        simp (maxSteps := 1000000) (disch := omega) only [ES, List.mem_cons, List.not_mem_nil, implies_true, forall_const, WS, List.getElem_cons_zero, List.getElem_cons_succ, Option.isNone_some, Option.isNone_none, List.getD_cons_zero, List.getD_cons_succ, I.at, atL, atO, atP, evp, evs, retV, ↓reduceIte, Nat.reduceEqDiff, reduceCtorEq, AS, t1, t3, t4, t5, t6, t11, t13, t15, t14, hS10.top.sl.Eix iS, hS10.top.sl.Eld iS, sS.Elen, h0, show decide (((0 : Nat) : Int) > 0) = false from rfl]
        exact ⟨⟨E2, i + 1, rfl, by omega, by rw [pi]⟩, by omega⟩
      rw [if_neg (by rw [hLn i hil]; exact h0)] at pi
      have hlw := (hlt i hil).resolve_left h0
      have ix : x < (Rw i).length := by omega
      have ixW : x < (rowS f K G hsd.length i).length := by rw [rowS_len]; exact hxl
      have eV : (rowS f K G hsd.length i)[x] = valS f K (G x) i := rowS_get ixW
      have eR : (Rw i)[x] = nth (Rw i) x := (nth_get ix).symm
      by_cases heq : nth (Rw i) x = valS f K (G x) i
      · rw [heq] at eR
        simp (maxSteps := 1000000) (disch := omega) only [ES, List.mem_cons, List.not_mem_nil, implies_true, forall_const, WS, List.getElem_cons_zero, List.getElem_cons_succ, Option.isNone_some, Option.isNone_none, List.getD_cons_zero, List.getD_cons_succ, I.at, atL, atO, atP, evp, evs, retV, ↓reduceIte, Nat.reduceEqDiff, reduceCtorEq, AS, t1, t3, t4, t5, t6, t11, t13, t15, t14, hS10.top.sl.Eix iS, hS10.top.sl.Eld iS, sS.Elen, sS.Eix ix, sS.Eld ix, hW10.top.sl.Eix iW, hW10.top.sl.Eld iW, sW'.Eix ixW, sW'.Eld ixW, cell_e8, eV, eR, ne_eq, not_true_eq_false, decide_false]
        refine ⟨⟨E2, i + 1, rfl, by omega, ?_⟩, by omega⟩
        rw [pi, List.filter_append]
        simp only [List.filter_cons, List.filter_nil, heq, decide_true, Bool.not_true, Bool.false_eq_true, if_false, List.append_nil]
      · have hne : ((nth (Rw i) x).v.toNat : Int) ≠ ((valS f K (G x) i).v.toNat : Int) := fun e => heq (El.ext (BitVec.eq_of_toNat_eq (by omega)))
        simp (maxSteps := 1000000) (disch := omega) only [ES, List.mem_cons, List.not_mem_nil, implies_true, forall_const, WS, List.getElem_cons_zero, List.getElem_cons_succ, Option.isNone_some, Option.isNone_none, List.getD_cons_zero, List.getD_cons_succ, I.at, atL, atO, atP, evp, evs, retV, ↓reduceIte, Nat.reduceEqDiff, reduceCtorEq, AS, t1, t3, t4, t5, t6, t11, t13, t15, t14, hS10.top.sl.Eix iS, hS10.top.sl.Eld iS, sS.Elen, sS.Eix ix, sS.Eld ix, hW10.top.sl.Eix iW, hW10.top.sl.Eld iW, sW'.Eix ixW, sW'.Eld ixW, cell_e8, eV, eR, decide_eq_true hne]
        refine ⟨⟨E2, i + 1, rfl, by omega, ?_⟩, by omega⟩
        rw [pi, List.filter_append, List.length_append]
        simp only [List.filter_cons, List.filter_nil, heq, decide_false, Bool.not_false, if_true, List.length_singleton]
    obtain rfl : i = i2 := by omega
    have hrb10 := hrb8.up E2
    obtain ⟨q, hq'⟩ : ∃ q, q = ((prsL (hln hs1) i).filter fun s => !decide (nth (Rw s) x = valS f K (G x) s)).length := ⟨_, rfl⟩
    rw [← hq'] at t14
    have hqn : q ≤ i := by
      have := List.length_filter_le (fun s => !decide (nth (Rw s) x = valS f K (G x) s)) (prsL (hln hs1) i)
      omega
    have e2q : IntKind.i64.wrap (2 * (q : Int)) = 2 * (q : Int) := wrap_id (by omega) (by omega)
    have eMz : IntKind.i64.wrap ((M : Int) - (e : Int)) = (M : Int) - (e : Int) := wrap_id (by omega) (by omega)
    by_cases hgt : 2 * (q : Int) > (M : Int) - (e : Int)
    · simp (maxSteps := 1000000) (disch := omega) only [WS, List.getElem_cons_zero, List.getElem_cons_succ, Option.isNone_some, Option.isNone_none, List.getD_cons_zero, List.getD_cons_succ, I.at, atL, atO, atP, evp, evs, retV, ↓reduceIte, Nat.reduceEqDiff, reduceCtorEq, AS, t1, t3, t4, t5, t6, t11, t13, t15, t14, hrb10.Xld (show 2 < _ by simp), e2q, eMz]
      exact B.trans ((E.trans ((D.trans (E2.mono D.size)).mono E.size)).mono B.size)
    simp (maxSteps := 1000000) (disch := omega) only [WS, List.getElem_cons_zero, List.getElem_cons_succ, Option.isNone_some, Option.isNone_none, List.getD_cons_zero, List.getD_cons_succ, I.at, atL, atO, atP, evp, evs, retV, ↓reduceIte, Nat.reduceEqDiff, reduceCtorEq, AS, t1, t3, t4, t5, t6, t11, t13, t15, t14, hrb10.Xld (show 2 < _ by simp), e2q, eMz]
    refine ⟨⟨E2, x + 1, rfl, by omega, fun y hy => ?_⟩, by omega⟩
    by_cases ey : y = x
    · rw [ey, ← hq']; omega
    · exact hcnt y (by omega)
  obtain rfl : x = hsd.length := by omega
  have hS9 := hS8.up (frmB w4) E2
  have hW9 := hW8.up (frmT fun _ => True) E2
  simp (maxSteps := 1000000) (disch := omega) only [WS, List.getElem_cons_zero, List.getElem_cons_succ, Option.isNone_some, Option.isNone_none, List.getD_cons_zero, List.getD_cons_succ, I.at, atL, atO, atP, evp, evs, retV, ↓reduceIte, Nat.reduceEqDiff, reduceCtorEq, AS, t1, t3, t4, t5, t6, t11, t13, hrb9.Xld (show 3 < _ by simp), h9.Xlen, hrb9.Xld (show 0 < _ by simp), hrb9.Xld (show 1 < _ by simp), hrb9.Xld (show 2 < _ by simp)]
  have hlb : ∀ j, hln hs1 j ≤ 1099511627776 := hln_le fun j hj => by
    rw [hLn j (by omega)]
    rcases hlt j (by omega) with e1 | e1 <;> omega
  have hLT : ∀ j, j < i2 → hln hs1 j = 0 ∨ hln hs1 j = hsd.length := fun j hj => by rw [hLn j hj]; exact hlt j hj
  have hcn : cnt f (K : Int) (M : Int) i2 = 0 := cnt_zero hf hk1 hm1 hkm (by omega)
  have hnear : ∀ y, y < hsd.length → nearS f K (hln hs1) i2 Rw y (G y) := fun y hy => by
    obtain ⟨a1, a2⟩ := hG y hy
    refine ⟨a1, a2, ?_⟩
    rw [offS_len (by omega) (by omega)]
    have := hcnt y hy
    omega
  have hun : ∀ G' : Nat → List (El 8), (∀ y, y < hsd.length → nearS f K (hln hs1) i2 Rw y (G' y)) → ∀ y, y < hsd.length → G' y = G y := fun G' h y hy => nearS_uniq (by omega) (by omega) (h y hy) (hnear y hy)
  obtain ⟨L1, hL1⟩ : ∃ L1, L1 = ((prsL (hln hs1) i2).filter fun s => !decide (Rw s = rowS f K G hsd.length s)).map fun (j : Nat) => (j : Int) := ⟨_, rfl⟩
  have hL1n : L1.length ≤ 1000 := by
    rw [hL1, List.length_map]
    have := List.length_filter_le (fun s => !decide (Rw s = rowS f K G hsd.length s)) (prsL (hln hs1) i2)
    omega
  rw [← hL1] at or
  have hwrE : ∀ (G' : Nat → List (El 8)) (bo : Nat → Bool), (∀ y, y < hsd.length → nearS f K (hln hs1) i2 Rw y (G' y)) → (∀ i, bo i = true ↔ ∃ t, t < hsd.length ∧ i ∈ offS f K (hln hs1) i2 Rw t (G' t)) → wrL (hln hs1) i2 bo = L1 := fun G' bo hG' hbo => by
    rw [wrL_eq (f := f) (K := K) (len := hsd.length) (R := Rw) (G := G') (by omega) (by omega) (fun s hs => by obtain ⟨a1, a2⟩ := prsL_mem.1 hs; rw [← hLn s a1]; exact (hLT s a1).resolve_left a2) hbo, hL1]
    congr 1
    refine List.filter_congr fun s _ => ?_
    rw [rowS_congr (hun G' hG')]
  have or := or.up E2
  refine X_call0 ((mend_Find_spec w9 f (K : Int) (M : Int) sl hs1 Rw hS9.top.sl (fun j hj => hS9.sl hj) hlb).mono ?_)
  rw [Int.toNat_natCast, lh1]
  rintro vv w10 ⟨hB10, len, ev, hL, hres⟩
  obtain ⟨hw0, hlT⟩ := wer_ok hf hk1 hm1 hkm (show ((i2 : Nat) : Int) = (K : Int) + (M : Int) by omega) (hL hcn) (by omega) hLT (by omega)
  subst hlT
  obtain ⟨sF, G1, bo1, rfl, hE1, hbo1, oF⟩ : ∃ (sw : Value) (G : Nat → List (El 8)) (bo : Nat → Bool), vv = .tuple #[sw, .int .i64 0] ∧ (∀ t, t < hsd.length → nearS f K (hln hs1) i2 Rw t (G t)) ∧ (∀ i, bo i = true ↔ ∃ t, t < hsd.length ∧ i ∈ offS f K (hln hs1) i2 Rw t (G t)) ∧ Ow w9.heap.size w10 sw (wrL (hln hs1) i2 bo) := by
    rcases hres with ⟨h9, -⟩ | ⟨-, -, ⟨-, y, hy, hfar⟩ | h9⟩
    · exact absurd hw0 h9
    · have h1 := hfar (G y) (hnear y hy).1 (hnear y hy).2.1
      have h2 := (hnear y hy).2.2
      omega
    · exact h9
  rw [hwrE G1 bo1 hE1 hbo1] at oF
  clear hres hL
  have hS10 := hS9.up (frmB w4) hB10
  have or := or.up hB10
  have hrb10 := hrb9.up hB10
  have oF := oF.mono (show w7.heap.size ≤ w9.heap.size by have := E2.size; omega)
  have zE := E2.size
  have z10 := hB10.size
  simp (maxSteps := 1000000) (disch := omega) only [WS, List.getElem_cons_zero, List.getElem_cons_succ, Option.isNone_some, Option.isNone_none, List.getD_cons_zero, List.getD_cons_succ, I.at, atL, atO, atP, evp, evs, retV, ↓reduceIte, Nat.reduceEqDiff, reduceCtorEq, AS, t1, t3, t4, t5, t6, t11, hrb10.Xld (show 0 < _ by simp), hrb10.Xld (show 1 < _ by simp), hrb10.Xld (show 2 < _ by simp)]
  have hSf := hS10.frame (F' := fun w' => RowKit.Below w4.heap.size w4 w' ∧ Ow w7.heap.size w' sr L1 ∧ Ow w7.heap.size w' sF L1) ⟨hS10.frm, or, oF⟩
  refine X_call0 ((mend_Shards_spec w10 f (K : Int) (M : Int) sl hs1 Rw (frm2 w4 w7.heap.size sr sF L1 L1) hSf (by omega) (fun j hj b hb hne => by obtain ⟨c, hc, hc1, hc2⟩ := (hS.row j hj hne).blk; rw [hc] at hb; cases hb; exact ⟨hc1, hc2⟩) (fun b hb => hS.top.blk b hb) (fun _ _ => rfl) hlb).mono ?_)
  rw [Int.toNat_natCast]
  rintro vv w11 ⟨z11, len, ev2, hL, hres⟩
  rw [lh1] at hL
  obtain ⟨hw1, hlT⟩ := wer_ok hf hk1 hm1 hkm (show ((i2 : Nat) : Int) = (K : Int) + (M : Int) by omega) (hL hcn) (by omega) hLT (by omega)
  subst hlT
  obtain ⟨sw2, G2, bo2, hs2, rfl, lh2, hS2, hE2, hbo2, o2⟩ : ∃ (sw : Value) (G : Nat → List (El 8)) (bo : Nat → Bool) (hs' : List Hd), vv = .tuple #[sw, .int .i64 0] ∧ hs'.length = i2 ∧ ShM w4.heap.size (fun w' => RowKit.Below w4.heap.size w4 w' ∧ Ow w7.heap.size w' sr L1 ∧ Ow w7.heap.size w' sF L1) (fun _ => []) sl hs' (rowS f K G hsd.length) w11 ∧ (∀ t, t < hsd.length → nearS f K (hln hs1) i2 Rw t (G t)) ∧ (∀ i, bo i = true ↔ ∃ t, t < hsd.length ∧ i ∈ offS f K (hln hs1) i2 Rw t (G t)) ∧ Ow w10.heap.size w11 sw (wrL (hln hs1) i2 bo) := by
    rcases hres with ⟨h9, -⟩ | ⟨-, -, ⟨-, -, y, hy, hfar⟩ | ⟨sw, G', bo, hs', a1, a2, a3, -, -, a4, a5, a6⟩⟩
    · rw [lh1] at h9; exact absurd hw1 h9
    · rw [lh1] at hfar
      have h1 := hfar (G y) (hnear y hy).1 (hnear y hy).2.1
      have h2 := (hnear y hy).2.2
      omega
    · rw [lh1] at a2 a4 a5 a6
      exact ⟨sw, G', bo, hs', a1, a2, a3, a4, a5, a6⟩
  rw [hwrE G2 bo2 hE2 hbo2] at o2
  clear hres
  obtain ⟨EE, or, oF⟩ := hS2.frm
  have hW11 := hW.up (frmT fun _ => True) EE
  have B := B.trans (EE.mono B.size)
  have or := or.sl
  have oF := oF.sl
  have o2 := o2.sl
  simp (maxSteps := 1000000) (disch := omega) only [WS, List.getElem_cons_zero, List.getElem_cons_succ, Option.isNone_some, Option.isNone_none, List.getD_cons_zero, List.getD_cons_succ, I.at, atL, atO, atP, evp, evs, retV, ↓reduceIte, Nat.reduceEqDiff, reduceCtorEq, AS, t1, t3, t4, t5, t6, t11, show decide ((0 : Int) = 0) = true from rfl]
  refine X_call0 ((culletlaw19_sameInts_spec w11 sF sr L1 L1 oF or (by omega) (by omega)).mono ?_)
  rintro _ w12 ⟨rfl, hk⟩
  have hB := hk.1
  have hS12 := hS2.up (frm2 w4 w7.heap.size sr sF L1 L1) hB
  have hW12 := hW11.up (frmT fun _ => True) hB
  have or := or.up hB
  have o2 := o2.up hB
  have B := B.trans (hB.mono B.size)
  clear hB
  clear hk
  simp (maxSteps := 1000000) (disch := omega) only [WS, List.getElem_cons_zero, List.getElem_cons_succ, Option.isNone_some, Option.isNone_none, List.getD_cons_zero, List.getD_cons_succ, I.at, atL, atO, atP, evp, evs, retV, ↓reduceIte, Nat.reduceEqDiff, reduceCtorEq, AS, decide_eq_true rfl, t11]
  refine X_call0 ((culletlaw19_sameInts_spec w12 sw2 sr L1 L1 o2 or (by omega) (by omega)).mono ?_)
  rintro _ w13 ⟨rfl, hk⟩
  have hB := hk.1
  have hS13 := hS12.up (frm2 w4 w7.heap.size sr sF L1 L1) hB
  have hW13 := hW12.up (frmT fun _ => True) hB
  have B := B.trans (hB.mono B.size)
  clear hB
  clear hk
  simp (maxSteps := 1000000) (disch := omega) only [WS, List.getElem_cons_zero, List.getElem_cons_succ, Option.isNone_some, Option.isNone_none, List.getD_cons_zero, List.getD_cons_succ, I.at, atL, atO, atP, evp, evs, retV, ↓reduceIte, Nat.reduceEqDiff, reduceCtorEq, AS, decide_eq_true rfl, t4, t5]
  refine X_call0 ((culletlaw19_same_spec w13 sl sW hs2 hsW (rowS f K G2 hsd.length) (rowS f K G hsd.length) hS13.top.sl hW13.top.sl (fun j hj => hS13.sl hj) (fun j hj => hW13.sl hj) (by omega) (by omega) (fun j hj => by rw [rowS_len]; omega) (fun j hj => by rw [rowS_len]; omega)).mono ?_)
  rintro _ w14 ⟨hB, -, bb, rfl, hbb⟩
  have B := B.trans (hB.mono B.size)
  clear hB
  simp (maxSteps := 1000000) (disch := omega) only [WS, List.getElem_cons_zero, List.getElem_cons_succ, Option.isNone_some, Option.isNone_none, List.getD_cons_zero, List.getD_cons_succ, I.at, atL, atO, atP, evp, evs, retV, ↓reduceIte, Nat.reduceEqDiff, reduceCtorEq, AS, hbb.2 ⟨by omega, fun j hj => rowS_congr (hun G2 hE2)⟩]
  exact B
theorem wrong_of {w : World} {vs : List Value} (h : vs.length = 3 ∧ RF 1 (RI .i64) (RF 1 (RI .i64) (RF 1 (RC (El 8) fun _ _ => True) RZ)) w vs) : ∃ (a c : Int) (x : El 8), vs = [.int .i64 a, .int .i64 c, .int .u8 (x.v.toNat : Int)] := by
  obtain ⟨hl, h⟩ := h
  obtain ⟨u0, c0, rfl, y0, h⟩ := RF.split h RI.one
  obtain ⟨u1, c1, rfl, y1, h⟩ := RF.split h RI.one
  obtain ⟨u2, c2, rfl, y2, h⟩ := RF.split h RC.one
  obtain rfl : c2 = [] := List.eq_nil_of_length_eq_zero (by simpa using hl)
  obtain ⟨a, e0, -⟩ := y0
  obtain ⟨c, e1, -⟩ := y1
  obtain ⟨x, e2, -⟩ := y2
  simp only [List.cons.injEq, and_true] at e0 e1 e2
  subst e0 e1 e2
  exact ⟨a, c, x, rfl⟩
end Go.Proofs.Ytbaljbadlfopgaa.Fw
