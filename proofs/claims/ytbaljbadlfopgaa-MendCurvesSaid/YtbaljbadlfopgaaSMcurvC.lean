import Derived.Test.YtbaljbadlfopgaaProg
import Derived.Test.YtbaljbadlfopgaaFwTC
import Derived.Test.YtbaljbadlfopgaaSMhornC
import Derived.Test.YtbaljbadlfopgaaFwSgC
set_option linter.all false
set_option linter.unusedVariables false
set_option linter.unusedSimpArgs false
set_option maxRecDepth 100000
set_option maxHeartbeats 1000000
namespace Go.Proofs.Ytbaljbadlfopgaa.Fw
open Go Go.Fw Go.Proofs
attribute [local irreducible] stepI
def c_culletlaw19_MendCurves : C := .seq (.ops [⟨0, (some 1), none, .box 31 (.t 0), []⟩, ⟨1, (some 2), none, .mov (.c (.bool false)), []⟩]) (.seq (.seq (.ops [⟨0, (some 19), none, .call (.c (.func (.func 13) #[] #[])) [], []⟩, ⟨1, (some 20), none, .un .not (.t 19), []⟩]) (.ite (.t 20) (.seq (.ops [⟨0, (some 2), none, .mov (.c (.bool false)), []⟩]) .ret) .skip)) (.seq (.ops [⟨0, (some 21), none, .fad 0 (.t 1), []⟩, ⟨1, (some 22), none, .ld (.t 21), []⟩, ⟨2, (some 23), none, .len (.t 22), []⟩, ⟨3, (some 3), none, .mov (.t 23), []⟩]) (.seq (.ops [⟨0, (some 24), none, .fad 1 (.t 1), []⟩, ⟨1, (some 25), none, .ld (.t 24), []⟩, ⟨2, (some 26), none, .len (.t 25), []⟩, ⟨3, (some 4), none, .mov (.t 26), []⟩]) (.seq (.seq (.ops [⟨0, (some 27), none, .mov (.t 3), []⟩, ⟨1, (some 28), none, .bin .lss (.t 27) (.c (.int .i64 1)), []⟩, ⟨2, (some 29), none, .mov (.t 28), []⟩, ⟨3, (some 30), (some (29, false)), .mov (.t 4), []⟩, ⟨4, (some 31), (some (29, false)), .mov (.t 3), []⟩, ⟨5, (some 32), (some (29, false)), .bin .lss (.t 30) (.t 31), []⟩, ⟨6, (some 33), none, .pick (.t 29) (.c (.bool true)) (.t 32), []⟩, ⟨7, (some 34), none, .mov (.t 33), []⟩, ⟨8, (some 35), (some (34, false)), .mov (.t 4), []⟩, ⟨9, (some 36), (some (34, false)), .bin .gtr (.t 35) (.c (.int .i64 96)), []⟩, ⟨10, (some 37), none, .pick (.t 34) (.c (.bool true)) (.t 36), []⟩]) (.ite (.t 37) (.seq (.ops [⟨0, (some 2), none, .mov (.c (.bool true)), []⟩]) .ret) .skip)) (.seq (.ops [⟨0, (some 38), none, .mov (.t 4), []⟩, ⟨1, (some 39), none, .mks 5 1 [.int .u8 0] (.t 38) (.t 38), []⟩, ⟨2, (some 5), none, .mov (.t 39), []⟩]) (.seq (.ops [⟨0, (some 40), none, .mov (.t 4), []⟩, ⟨1, (some 41), none, .mks 5 1 [.int .u8 0] (.t 40) (.t 40), []⟩, ⟨2, (some 6), none, .mov (.t 41), []⟩]) (.seq (.ops [⟨0, (some 42), none, .mov (.t 4), []⟩, ⟨1, (some 43), none, .mks 5 1 [.int .u8 0] (.t 42) (.t 42), []⟩, ⟨2, (some 7), none, .mov (.t 43), []⟩]) (.seq (.ops [⟨0, (some 8), none, .mov (.c (.slice none 0 0)), []⟩]) (.seq (.seq (.ops [⟨0, (some 9), none, .mov (.c (.int .i64 0)), []⟩]) (.block 0 (.loop (.seq (.seq (.ops [⟨0, (some 44), none, .mov (.t 9), []⟩, ⟨1, (some 45), none, .mov (.t 4), []⟩, ⟨2, (some 46), none, .bin .lss (.t 44) (.t 45), []⟩]) (.ite (.t 46) .skip (.exit 0))) (.seq (.block 1 (.seq (.seq (.dops [⟨0, (some 49), none, .fad 1 (.t 1), []⟩, ⟨1, (some 50), none, .ld (.t 49), []⟩, ⟨2, (some 51), none, .mov (.t 9), []⟩, ⟨3, (some 52), none, .ixs 1 (.t 50) (.t 51), []⟩, ⟨4, (some 53), none, .ld (.t 52), []⟩, ⟨5, (some 54), none, .bin .lss (.t 53) (.c (.int .i64 0)), []⟩, ⟨6, (some 55), none, .mov (.t 54), []⟩, ⟨7, (some 56), (some (55, false)), .fad 1 (.t 1), []⟩, ⟨8, (some 57), (some (55, false)), .ld (.t 56), []⟩, ⟨9, (some 58), (some (55, false)), .mov (.t 9), []⟩, ⟨10, (some 59), (some (55, false)), .ixs 1 (.t 57) (.t 58), []⟩, ⟨11, (some 60), (some (55, false)), .ld (.t 59), []⟩, ⟨12, (some 61), (some (55, false)), .bin .gtr (.t 60) (.c (.int .i64 255)), []⟩, ⟨13, (some 62), none, .pick (.t 55) (.c (.bool true)) (.t 61), []⟩, ⟨14, (some 63), none, .mov (.t 62), []⟩, ⟨15, (some 64), (some (63, false)), .mov (.t 9), []⟩, ⟨16, (some 65), (some (63, false)), .bin .gtr (.t 64) (.c (.int .i64 0)), []⟩, ⟨17, (some 66), (some (63, false)), .mov (.t 65), []⟩, ⟨18, (some 67), (some (66, true)), .fad 1 (.t 1), []⟩, ⟨19, (some 68), (some (66, true)), .ld (.t 67), []⟩, ⟨20, (some 69), (some (66, true)), .mov (.t 9), []⟩, ⟨21, (some 70), (some (66, true)), .ixs 1 (.t 68) (.t 69), []⟩, ⟨22, (some 71), (some (66, true)), .ld (.t 70), []⟩, ⟨23, (some 72), (some (66, true)), .fad 1 (.t 1), []⟩, ⟨24, (some 73), (some (66, true)), .ld (.t 72), []⟩, ⟨25, (some 74), (some (66, true)), .mov (.t 9), []⟩, ⟨26, (some 75), (some (66, true)), .bin .sub (.t 74) (.c (.int .i64 1)), []⟩, ⟨27, (some 76), (some (66, true)), .ixs 1 (.t 73) (.t 75), []⟩, ⟨28, (some 77), (some (66, true)), .ld (.t 76), []⟩, ⟨29, (some 78), (some (66, true)), .bin .leq (.t 71) (.t 77), []⟩, ⟨30, (some 79), (some (63, false)), .pick (.t 66) (.t 78) (.c (.bool false)), []⟩, ⟨31, (some 80), none, .pick (.t 63) (.c (.bool true)) (.t 79), []⟩]) (.ite (.t 80) (.seq (.ops [⟨0, (some 2), none, .mov (.c (.bool true)), []⟩]) .ret) .skip)) (.seq (.dops [⟨0, (some 81), none, .mov (.t 5), []⟩, ⟨1, (some 82), none, .mov (.t 9), []⟩, ⟨2, (some 83), none, .fad 0 (.t 1), []⟩, ⟨3, (some 84), none, .ld (.t 83), []⟩, ⟨4, (some 85), none, .fad 1 (.t 1), []⟩, ⟨5, (some 86), none, .ld (.t 85), []⟩, ⟨6, (some 87), none, .mov (.t 9), []⟩, ⟨7, (some 88), none, .ixs 1 (.t 86) (.t 87), []⟩, ⟨8, (some 89), none, .ld (.t 88), []⟩, ⟨9, (some 90), none, .cnv .u8 (.t 89), []⟩, ⟨10, (some 91), none, .call (.c (.func (.func 15) #[] #[])) [.t 84, .t 90], []⟩, ⟨11, (some 92), none, .ixs 1 (.t 81) (.t 82), []⟩, ⟨12, none, none, .st (.t 92) (.t 91), []⟩]) (.seq (.seq (.ops [⟨0, (some 93), none, .mov (.t 9), []⟩, ⟨1, (some 94), none, .fad 2 (.t 1), []⟩, ⟨2, (some 95), none, .ld (.t 94), []⟩, ⟨3, (some 96), none, .len (.t 95), []⟩, ⟨4, (some 97), none, .bin .lss (.t 93) (.t 96), []⟩]) (.ite (.t 97) (.ops [⟨0, (some 98), none, .mov (.t 6), []⟩, ⟨1, (some 99), none, .mov (.t 9), []⟩, ⟨2, (some 100), none, .fad 2 (.t 1), []⟩, ⟨3, (some 101), none, .ld (.t 100), []⟩, ⟨4, (some 102), none, .mov (.t 9), []⟩, ⟨5, (some 103), none, .ixs 1 (.t 101) (.t 102), []⟩, ⟨6, (some 104), none, .ld (.t 103), []⟩, ⟨7, (some 105), none, .ixs 1 (.t 98) (.t 99), []⟩, ⟨8, none, none, .st (.t 105) (.t 104), []⟩]) .skip)) (.seq (.dops [⟨0, (some 106), none, .mov (.t 7), []⟩, ⟨1, (some 107), none, .mov (.t 9), []⟩, ⟨2, (some 108), none, .mov (.t 5), []⟩, ⟨3, (some 109), none, .mov (.t 9), []⟩, ⟨4, (some 110), none, .ixs 1 (.t 108) (.t 109), []⟩, ⟨5, (some 111), none, .ld (.t 110), []⟩, ⟨6, (some 112), none, .mov (.t 6), []⟩, ⟨7, (some 113), none, .mov (.t 9), []⟩, ⟨8, (some 114), none, .ixs 1 (.t 112) (.t 113), []⟩, ⟨9, (some 115), none, .ld (.t 114), []⟩, ⟨10, (some 116), none, .bin .xor (.t 111) (.t 115), []⟩, ⟨11, (some 117), none, .ixs 1 (.t 106) (.t 107), []⟩, ⟨12, none, none, .st (.t 117) (.t 116), []⟩]) (.seq (.ops [⟨0, (some 118), none, .mov (.t 6), []⟩, ⟨1, (some 119), none, .mov (.t 9), []⟩, ⟨2, (some 120), none, .ixs 1 (.t 118) (.t 119), []⟩, ⟨3, (some 121), none, .ld (.t 120), []⟩, ⟨4, (some 122), none, .bin .neq (.t 121) (.c (.int .u8 0)), []⟩]) (.ite (.t 122) (.ops [⟨0, (some 123), none, .mov (.t 8), []⟩, ⟨1, (some 124), none, .fad 1 (.t 1), []⟩, ⟨2, (some 125), none, .ld (.t 124), []⟩, ⟨3, (some 126), none, .mov (.t 9), []⟩, ⟨4, (some 127), none, .ixs 1 (.t 125) (.t 126), []⟩, ⟨5, (some 128), none, .ld (.t 127), []⟩, ⟨6, (some 129), none, .bsl 3 1 [.int .i64 0] [(0, (1, .t 128))], []⟩, ⟨7, (some 130), none, .app 3 8 [.int .i64 0] (.t 123) (.t 129), []⟩, ⟨8, (some 8), none, .mov (.t 130), []⟩]) .skip))))))) (.ops [⟨0, (some 47), none, .mov (.t 9), []⟩, ⟨1, (some 48), none, .bin .add (.t 47) (.c (.int .i64 1)), []⟩, ⟨2, (some 9), none, .mov (.t 48), []⟩])))))) (.seq (.ops [⟨0, (some 132), none, .mov (.t 3), []⟩, ⟨1, (some 133), none, .bsl 3 0 [.int .i64 0] [], []⟩, ⟨2, (some 134), none, .fad 1 (.t 1), []⟩, ⟨3, (some 135), none, .ld (.t 134), []⟩, ⟨4, (some 136), none, .app 3 8 [.int .i64 0] (.t 133) (.t 135), []⟩, ⟨5, (some 137), none, .mov (.t 7), []⟩, ⟨6, (some 138), none, .call (.c (.func (.func 16) #[] #[])) [.t 132, .t 136, .t 137], []⟩, ⟨7, (some 131), none, .mov (.t 138), []⟩, ⟨8, (some 139), none, .ext (.t 131) 0, []⟩, ⟨9, (some 140), none, .ext (.t 131) 1, []⟩, ⟨10, (some 10), none, .mov (.t 139), []⟩, ⟨11, (some 11), none, .mov (.t 140), []⟩]) (.seq (.ops [⟨0, (some 142), none, .mov (.t 3), []⟩, ⟨1, (some 143), none, .bsl 3 0 [.int .i64 0] [], []⟩, ⟨2, (some 144), none, .fad 1 (.t 1), []⟩, ⟨3, (some 145), none, .ld (.t 144), []⟩, ⟨4, (some 146), none, .app 3 8 [.int .i64 0] (.t 143) (.t 145), []⟩, ⟨5, (some 147), none, .mov (.t 6), []⟩, ⟨6, (some 148), none, .call (.c (.func (.func 16) #[] #[])) [.t 142, .t 146, .t 147], []⟩, ⟨7, (some 141), none, .mov (.t 148), []⟩, ⟨8, (some 149), none, .ext (.t 141) 0, []⟩, ⟨9, (some 150), none, .ext (.t 141) 1, []⟩, ⟨10, (some 12), none, .mov (.t 149), []⟩, ⟨11, (some 13), none, .mov (.t 150), []⟩]) (.seq (.seq (.ops [⟨0, (some 151), none, .mov (.t 11), []⟩, ⟨1, (some 152), none, .bin .neq (.t 151) (.c (.int .i64 0)), []⟩, ⟨2, (some 153), none, .mov (.t 152), []⟩, ⟨3, (some 154), (some (153, false)), .mov (.t 13), []⟩, ⟨4, (some 155), (some (153, false)), .bin .neq (.t 154) (.c (.int .i64 0)), []⟩, ⟨5, (some 156), none, .pick (.t 153) (.c (.bool true)) (.t 155), []⟩, ⟨6, (some 157), none, .mov (.t 156), []⟩, ⟨7, (some 158), (some (157, false)), .mov (.t 10), []⟩, ⟨8, (some 159), (some (157, false)), .len (.t 158), []⟩, ⟨9, (some 160), (some (157, false)), .mov (.t 4), []⟩, ⟨10, (some 161), (some (157, false)), .mov (.t 3), []⟩, ⟨11, (some 162), (some (157, false)), .bin .sub (.t 160) (.t 161), []⟩, ⟨12, (some 163), (some (157, false)), .bin .neq (.t 159) (.t 162), []⟩, ⟨13, (some 164), none, .pick (.t 157) (.c (.bool true)) (.t 163), []⟩, ⟨14, (some 165), none, .mov (.t 164), []⟩, ⟨15, (some 166), (some (165, false)), .mov (.t 10), []⟩, ⟨16, (some 167), (some (165, false)), .mov (.t 12), []⟩, ⟨17, (some 168), (some (165, false)), .call (.c (.func (.func 17) #[] #[])) [.t 166, .t 167], []⟩, ⟨18, (some 169), (some (165, false)), .un .not (.t 168), []⟩, ⟨19, (some 170), none, .pick (.t 165) (.c (.bool true)) (.t 169), []⟩]) (.ite (.t 170) (.seq (.ops [⟨0, (some 2), none, .mov (.c (.bool false)), []⟩]) .ret) .skip)) (.seq (.ops [⟨0, (some 14), none, .mov (.c (.bool true)), []⟩]) (.seq (.seq (.ops [⟨0, (some 15), none, .mov (.c (.int .i64 0)), []⟩]) (.block 2 (.loop (.seq (.seq (.ops [⟨0, (some 171), none, .mov (.t 15), []⟩, ⟨1, (some 172), none, .mov (.t 10), []⟩, ⟨2, (some 173), none, .len (.t 172), []⟩, ⟨3, (some 174), none, .bin .lss (.t 171) (.t 173), []⟩]) (.ite (.t 174) .skip (.exit 2))) (.seq (.block 3 (.ops [⟨0, (some 177), none, .mov (.t 14), []⟩, ⟨1, (some 178), none, .mov (.t 177), []⟩, ⟨2, (some 179), (some (178, true)), .mov (.t 10), []⟩, ⟨3, (some 180), (some (178, true)), .mov (.t 15), []⟩, ⟨4, (some 181), (some (178, true)), .ixs 1 (.t 179) (.t 180), []⟩, ⟨5, (some 182), (some (178, true)), .ld (.t 181), []⟩, ⟨6, (some 183), (some (178, true)), .bin .eql (.t 182) (.c (.int .u8 0)), []⟩, ⟨7, (some 184), none, .pick (.t 178) (.t 183) (.c (.bool false)), []⟩, ⟨8, (some 14), none, .mov (.t 184), []⟩])) (.ops [⟨0, (some 175), none, .mov (.t 15), []⟩, ⟨1, (some 176), none, .bin .add (.t 175) (.c (.int .i64 1)), []⟩, ⟨2, (some 15), none, .mov (.t 176), []⟩])))))) (.seq (.seq (.ops [⟨0, (some 185), none, .mov (.t 8), []⟩, ⟨1, (some 186), none, .len (.t 185), []⟩, ⟨2, (some 187), none, .bin .mul (.c (.int .i64 2)) (.t 186), []⟩, ⟨3, (some 188), none, .mov (.t 4), []⟩, ⟨4, (some 189), none, .mov (.t 3), []⟩, ⟨5, (some 190), none, .bin .sub (.t 188) (.t 189), []⟩, ⟨6, (some 191), none, .bin .gtr (.t 187) (.t 190), []⟩]) (.ite (.t 191) (.seq (.ops [⟨0, (some 2), none, .mov (.c (.bool true)), []⟩]) .ret) .skip)) (.seq (.seq (.ops [⟨0, (some 192), none, .mov (.t 14), []⟩, ⟨1, (some 193), none, .mov (.t 8), []⟩, ⟨2, (some 194), none, .len (.t 193), []⟩, ⟨3, (some 195), none, .bin .eql (.t 194) (.c (.int .i64 0)), []⟩, ⟨4, (some 196), none, .eqb true (.t 192) (.t 195), []⟩]) (.ite (.t 196) (.seq (.ops [⟨0, (some 2), none, .mov (.c (.bool false)), []⟩]) .ret) .skip)) (.seq (.ops [⟨0, (some 198), none, .mov (.t 3), []⟩, ⟨1, (some 199), none, .mov (.t 4), []⟩, ⟨2, (some 200), none, .call (.c (.func (.func 18) #[] #[])) [.t 198, .t 199], []⟩, ⟨3, (some 197), none, .mov (.t 200), []⟩, ⟨4, (some 201), none, .ext (.t 197) 0, []⟩, ⟨5, (some 202), none, .ext (.t 197) 1, []⟩, ⟨6, (some 16), none, .mov (.t 201), []⟩, ⟨7, (some 11), none, .mov (.t 202), []⟩]) (.seq (.ops [⟨0, (some 204), none, .mov (.t 3), []⟩, ⟨1, (some 205), none, .bsl 3 0 [.int .i64 0] [], []⟩, ⟨2, (some 206), none, .fad 1 (.t 1), []⟩, ⟨3, (some 207), none, .ld (.t 206), []⟩, ⟨4, (some 208), none, .app 3 8 [.int .i64 0] (.t 205) (.t 207), []⟩, ⟨5, (some 209), none, .mov (.t 7), []⟩, ⟨6, (some 210), none, .call (.c (.func (.func 19) #[] #[])) [.t 204, .t 208, .t 209], []⟩, ⟨7, (some 203), none, .mov (.t 210), []⟩, ⟨8, (some 211), none, .ext (.t 203) 0, []⟩, ⟨9, (some 212), none, .ext (.t 203) 1, []⟩, ⟨10, (some 213), none, .ext (.t 203) 2, []⟩, ⟨11, (some 17), none, .mov (.t 211), []⟩, ⟨12, (some 18), none, .mov (.t 212), []⟩, ⟨13, (some 13), none, .mov (.t 213), []⟩]) (.seq (.ops [⟨0, (some 214), none, .mov (.t 11), []⟩, ⟨1, (some 215), none, .bin .eql (.t 214) (.c (.int .i64 0)), []⟩, ⟨2, (some 216), none, .mov (.t 215), []⟩, ⟨3, (some 217), (some (216, true)), .mov (.t 13), []⟩, ⟨4, (some 218), (some (216, true)), .bin .eql (.t 217) (.c (.int .i64 0)), []⟩, ⟨5, (some 219), none, .pick (.t 216) (.t 218) (.c (.bool false)), []⟩, ⟨6, (some 220), none, .mov (.t 219), []⟩, ⟨7, (some 221), (some (220, true)), .mov (.t 16), []⟩, ⟨8, (some 222), (some (220, true)), .mov (.t 4), []⟩, ⟨9, (some 223), (some (220, true)), .mov (.t 3), []⟩, ⟨10, (some 224), (some (220, true)), .bin .sub (.t 222) (.t 223), []⟩, ⟨11, (some 225), (some (220, true)), .bin .quo (.t 224) (.c (.int .i64 2)), []⟩, ⟨12, (some 226), (some (220, true)), .bin .eql (.t 221) (.t 225), []⟩, ⟨13, (some 227), none, .pick (.t 220) (.t 226) (.c (.bool false)), []⟩, ⟨14, (some 228), none, .mov (.t 227), []⟩, ⟨15, (some 229), (some (228, true)), .mov (.t 17), []⟩, ⟨16, (some 230), (some (228, true)), .mov (.t 5), []⟩, ⟨17, (some 231), (some (228, true)), .call (.c (.func (.func 17) #[] #[])) [.t 229, .t 230], []⟩, ⟨18, (some 232), none, .pick (.t 228) (.t 231) (.c (.bool false)), []⟩, ⟨19, (some 233), none, .mov (.t 232), []⟩, ⟨20, (some 234), (some (233, true)), .mov (.t 18), []⟩, ⟨21, (some 235), (some (233, true)), .mov (.t 8), []⟩, ⟨22, (some 236), (some (233, true)), .call (.c (.func (.func 20) #[] #[])) [.t 234, .t 235], []⟩, ⟨23, (some 237), none, .pick (.t 233) (.t 236) (.c (.bool false)), []⟩, ⟨24, (some 2), none, .mov (.t 237), []⟩]) .ret)))))))))))))))))))
attribute [irreducible] c_culletlaw19_MendCurves
theorem run_culletlaw19_MendCurves {args : List Value} {w : World} {K : Value → World → Prop} (hn : args.length ≤ 238) (h : WP Try.prog c_culletlaw19_MendCurves (endQ [.t 2] K) (initT args) w) : CallV Try.prog 4 args w K :=
  call_of follows Try.func4 (by kernel_rfl) (by kernel_rfl) hn h
end Go.Proofs.Ytbaljbadlfopgaa.Fw
namespace Go.Proofs.Ytbaljbadlfopgaa.Fw
open Go Go.Fw
theorem nth_set {l : List (El 8)} {i : Nat} (h : i < l.length) (x : El 8) (j : Nat) : nth (l.set i x) j = if j = i then x else nth l j := by
  unfold nth
  rw [List.getD_eq_getElem?_getD, List.getD_eq_getElem?_getD, List.getElem?_set]
  by_cases e : i = j
  · subst e; rw [if_pos rfl, if_pos h, if_pos rfl]; rfl
  · rw [if_neg e, if_neg (fun e' => e e'.symm)]
theorem nth_rep (n : Nat) (j : Nat) : nth (List.replicate n (0 : El 8)) j = 0 := by
  unfold nth
  rw [List.getD_eq_getElem?_getD, List.getElem?_replicate]
  split <;> rfl
theorem wr_succ (M : Nat → El 8) (i : Nat) : wr M (i + 1) = wr M i ++ if M i = 0 then [] else [i] := by
  unfold wr
  rw [List.range_succ, List.filter_append]
  congr 1
  by_cases h : M i = 0 <;> simp [h]
theorem wr_len (M : Nat → El 8) (i : Nat) : (wr M i).length ≤ i := by
  unfold wr
  have := List.length_filter_le (fun j => !decide (M j = 0)) (List.range i)
  rwa [List.length_range] at this
theorem seg_app {α : Type} [Cell α] {lo hi : Nat} {w w' : World} {s : Value} {l : List α} {r : Option Nat} (h : Seg lo hi w s l) (hl : l ≠ []) (hg : w.grownBy w' r) (hr : ∀ b, r = some b → hi ≤ b) : Seg lo hi w' s l := by
  obtain ⟨b, hb, -⟩ := h.sl.blk_lt hl
  exact ⟨h.own.grown hg (fun e => by have h1 := h.top b hb; have h2 := hr b (by rw [← e, hb]); omega), h.top⟩
theorem ne_nil_of {α : Type} {l : List α} {i : Nat} (h : i < l.length) : l ≠ [] := fun e => by rw [e] at h; exact absurd h (Nat.not_lt_zero _)
set_option maxHeartbeats 4000000 in
theorem culletlaw19_MendCurves_spec (w : World) (s1 s2 s3 : Value) (C : List (El 8)) (P : List Int) (M : List (El 8)) (h1 : Sl w s1 C) (h2 : Sl w s2 P) (h3 : Sl w s3 M) (hC : C.length ≤ 140737488351232) (hP : P.length ≤ 70368744175616) (hM : M.length ≤ 140737488351232) :
    CallV Try.prog 4 [.agg #[s1, s2, s3]] w fun v w' => v = .bool true ∧ RowKit.Below w.heap.size w w' := by
  refine run_culletlaw19_MendCurves (by simp) ?_
  simp only [c_culletlaw19_MendCurves, WS, List.getElem_cons_zero, List.getElem_cons_succ, Option.isNone_some, Option.isNone_none, List.getD_cons_zero, List.getD_cons_succ, I.at, atL, atO, atP, evp, evs, retV, ↓reduceIte, Nat.reduceEqDiff, reduceCtorEq]
  refine X_box fun b w1 hr hlb hB => ?_
  have hr : Row w1 b [s1, s2, s3] := hr
  have B := hB
  have h1 := h1.up hB
  have h2 := h2.up hB
  have h3 := h3.up hB
  clear hB hlb
  simp (maxSteps := 1000000) (disch := omega) only [WS, List.getElem_cons_zero, List.getElem_cons_succ, Option.isNone_some, Option.isNone_none, List.getD_cons_zero, List.getD_cons_succ, I.at, atL, atO, atP, evp, evs, retV, ↓reduceIte, Nat.reduceEqDiff, reduceCtorEq, AS]
  refine X_call0 ((culletlaw19_awake_spec w1).mono ?_)
  rintro _ w2 ⟨rfl, hB⟩
  have h1 := h1.up hB
  have h2 := h2.up hB
  have h3 := h3.up hB
  have hr := hr.up hB
  have B := B.trans (hB.mono B.size)
  clear hB
  by_cases g1 : C.length < 1
  · simp (maxSteps := 1000000) (disch := omega) only [WS, List.getElem_cons_zero, List.getElem_cons_succ, Option.isNone_some, Option.isNone_none, List.getD_cons_zero, List.getD_cons_succ, I.at, atL, atO, atP, evp, evs, retV, ↓reduceIte, Nat.reduceEqDiff, reduceCtorEq, AS, hr.Xld (show 0 < _ by simp), h1.Xlen, hr.Xld (show 1 < _ by simp), h2.Xlen]
    exact B
  by_cases g2 : P.length < C.length
  · simp (maxSteps := 1000000) (disch := omega) only [WS, List.getElem_cons_zero, List.getElem_cons_succ, Option.isNone_some, Option.isNone_none, List.getD_cons_zero, List.getD_cons_succ, I.at, atL, atO, atP, evp, evs, retV, ↓reduceIte, Nat.reduceEqDiff, reduceCtorEq, AS, hr.Xld (show 0 < _ by simp), h1.Xlen, hr.Xld (show 1 < _ by simp), h2.Xlen]
    exact B
  by_cases g3 : 96 < P.length
  · simp (maxSteps := 1000000) (disch := omega) only [WS, List.getElem_cons_zero, List.getElem_cons_succ, Option.isNone_some, Option.isNone_none, List.getD_cons_zero, List.getD_cons_succ, I.at, atL, atO, atP, evp, evs, retV, ↓reduceIte, Nat.reduceEqDiff, reduceCtorEq, AS, hr.Xld (show 0 < _ by simp), h1.Xlen, hr.Xld (show 1 < _ by simp), h2.Xlen]
    exact B
  simp (maxSteps := 1000000) (disch := omega) only [WS, List.getElem_cons_zero, List.getElem_cons_succ, Option.isNone_some, Option.isNone_none, List.getD_cons_zero, List.getD_cons_succ, I.at, atL, atO, atP, evp, evs, retV, ↓reduceIte, Nat.reduceEqDiff, reduceCtorEq, AS, hr.Xld (show 0 < _ by simp), h1.Xlen, hr.Xld (show 1 < _ by simp), h2.Xlen]
  refine X_mks (x := (0 : El 8)) (n := P.length) (by simp only [maxBytes]; omega) (by omega) fun sv w4 ov hB4 => ?_
  have gv := Seg.of ov
  simp (maxSteps := 1000000) (disch := omega) only [WS, List.getElem_cons_zero, List.getElem_cons_succ, Option.isNone_some, Option.isNone_none, List.getD_cons_zero, List.getD_cons_succ, I.at, atL, atO, atP, evp, evs, retV, ↓reduceIte, Nat.reduceEqDiff, reduceCtorEq, AS]
  refine X_mks (x := (0 : El 8)) (n := P.length) (by simp only [maxBytes]; omega) (by omega) fun sm w5 om hB5 => ?_
  have gm := Seg.of om
  simp (maxSteps := 1000000) (disch := omega) only [WS, List.getElem_cons_zero, List.getElem_cons_succ, Option.isNone_some, Option.isNone_none, List.getD_cons_zero, List.getD_cons_succ, I.at, atL, atO, atP, evp, evs, retV, ↓reduceIte, Nat.reduceEqDiff, reduceCtorEq, AS]
  refine X_mks (x := (0 : El 8)) (n := P.length) (by simp only [maxBytes]; omega) (by omega) fun ss w6 os hB6 => ?_
  have gs := Seg.of os
  have gv := (gv.up hB5).up hB6
  have gm := gm.up hB6
  have z4 := hB4.size
  have z5 := hB5.size
  have z6 := hB6.size
  have D := (hB4.trans (hB5.mono z4)).trans (hB6.mono (Nat.le_trans z4 z5))
  clear ov om os hB4 hB5 hB6
  simp (maxSteps := 1000000) (disch := omega) only [WS, List.getElem_cons_zero, List.getElem_cons_succ, Option.isNone_some, Option.isNone_none, List.getD_cons_zero, List.getD_cons_succ, I.at, atL, atO, atP, evp, evs, retV, ↓reduceIte, Nat.reduceEqDiff, reduceCtorEq, AS]
  refine loop_of (fun t w' => t 1 = .pointer (some ⟨b, 0, none⟩) ∧ t 3 = .int .i64 (C.length : Int) ∧ t 4 = .int .i64 (P.length : Int) ∧ t 5 = sv ∧ t 6 = sm ∧ t 7 = ss ∧ RowKit.Below w2.heap.size w2 w' ∧ w6.heap.size ≤ w'.heap.size ∧ ∃ (i : Nat) (sW : Value) (V ML S : List (El 8)), t 9 = .int .i64 (i : Int) ∧ i ≤ P.length ∧ t 8 = sW ∧ asc P i ∧ Seg w2.heap.size w4.heap.size w' sv V ∧ Seg w4.heap.size w5.heap.size w' sm ML ∧ Seg w5.heap.size w6.heap.size w' ss S ∧ V.length = P.length ∧ ML.length = P.length ∧ S.length = P.length ∧ (∀ j, j < i → nth V j = evl C (nth (xsP P) j)) ∧ (∀ j, nth ML j = if j < i then nth M j else 0) ∧ (∀ j, j < i → nth S j = evl C (nth (xsP P) j) + nth M j) ∧ Ow w6.heap.size w' sW ((wr (nth M) i).map fun j => P.getD j 0)) (fun t _ => P.length - (toI (t 9)).toNat)
    ⟨by simp only [WS, List.getElem_cons_zero, List.getElem_cons_succ, Option.isNone_some, Option.isNone_none, List.getD_cons_zero, List.getD_cons_succ, I.at, atL, atO, atP, evp, evs, retV, ↓reduceIte, Nat.reduceEqDiff, reduceCtorEq], by simp only [WS, List.getElem_cons_zero, List.getElem_cons_succ, Option.isNone_some, Option.isNone_none, List.getD_cons_zero, List.getD_cons_succ, I.at, atL, atO, atP, evp, evs, retV, ↓reduceIte, Nat.reduceEqDiff, reduceCtorEq], by simp only [WS, List.getElem_cons_zero, List.getElem_cons_succ, Option.isNone_some, Option.isNone_none, List.getD_cons_zero, List.getD_cons_succ, I.at, atL, atO, atP, evp, evs, retV, ↓reduceIte, Nat.reduceEqDiff, reduceCtorEq], by simp only [WS, List.getElem_cons_zero, List.getElem_cons_succ, Option.isNone_some, Option.isNone_none, List.getD_cons_zero, List.getD_cons_succ, I.at, atL, atO, atP, evp, evs, retV, ↓reduceIte, Nat.reduceEqDiff, reduceCtorEq], by simp only [WS, List.getElem_cons_zero, List.getElem_cons_succ, Option.isNone_some, Option.isNone_none, List.getD_cons_zero, List.getD_cons_succ, I.at, atL, atO, atP, evp, evs, retV, ↓reduceIte, Nat.reduceEqDiff, reduceCtorEq], by simp only [WS, List.getElem_cons_zero, List.getElem_cons_succ, Option.isNone_some, Option.isNone_none, List.getD_cons_zero, List.getD_cons_succ, I.at, atL, atO, atP, evp, evs, retV, ↓reduceIte, Nat.reduceEqDiff, reduceCtorEq], D, Nat.le_refl _, 0, .slice none 0 0, _, _, _, by simp only [WS, List.getElem_cons_zero, List.getElem_cons_succ, Option.isNone_some, Option.isNone_none, List.getD_cons_zero, List.getD_cons_succ, I.at, atL, atO, atP, evp, evs, retV, ↓reduceIte, Nat.reduceEqDiff, reduceCtorEq]; rfl, by omega, by simp only [WS, List.getElem_cons_zero, List.getElem_cons_succ, Option.isNone_some, Option.isNone_none, List.getD_cons_zero, List.getD_cons_succ, I.at, atL, atO, atP, evp, evs, retV, ↓reduceIte, Nat.reduceEqDiff, reduceCtorEq], fun i hi h => by omega, gv, gm, gs, List.length_replicate .., List.length_replicate .., List.length_replicate .., fun j h => by omega, fun j => by rw [nth_rep, if_neg (by omega)], fun j h => by omega, Or.inl ⟨rfl, rfl⟩⟩ ?_
  have k1 := h1
  have k2 := h2
  have k3 := h3
  have kr := hr
  clear D gv gm gs h1 h2 h3 hr
  rintro t w7 ⟨t1, t3, t4, t5, t6, t7, D, z7, i, sW, V, ML, S, t9, hi, t8, hasc, gv, gm, gs, lV, lML, lS, hV, hML, hS, oW⟩
  by_cases hil : i < P.length
  · have h2 := k2.up D
    have hr := kr.up D
    simp (maxSteps := 1000000) (disch := omega) only [WS, List.getElem_cons_zero, List.getElem_cons_succ, Option.isNone_some, Option.isNone_none, List.getD_cons_zero, List.getD_cons_succ, I.at, atL, atO, atP, evp, evs, retV, ↓reduceIte, Nat.reduceEqDiff, reduceCtorEq, AS, t1, t3, t4, t5, t6, t7, t8, t9]
    have d2 := h2.drew
    have dr := hr.drew
    refine WP_cut (fun t w' => w' = w7.drew ∧ t 1 = .pointer (some ⟨b, 0, none⟩) ∧ t 3 = .int .i64 (C.length : Int) ∧ t 4 = .int .i64 (P.length : Int) ∧ t 5 = sv ∧ t 6 = sm ∧ t 7 = ss ∧ t 8 = sW ∧ t 9 = .int .i64 (i : Int) ∧ ∃ c : Bool, t 80 = .bool c ∧ (c = false → 0 ≤ P[i] ∧ P[i] ≤ 255 ∧ ∀ h : i - 1 < P.length, 0 < i → P[i - 1] < P[i])) ?_ fun t w' hR => ?_
    · refine WP_dops ?_
      by_cases c1 : P[i] < 0
      · simp (maxSteps := 1000000) (disch := omega) only [ES, List.mem_cons, List.not_mem_nil, implies_true, forall_const, WS, List.getElem_cons_zero, List.getElem_cons_succ, Option.isNone_some, Option.isNone_none, List.getD_cons_zero, List.getD_cons_succ, I.at, atL, atO, atP, evp, evs, retV, ↓reduceIte, Nat.reduceEqDiff, reduceCtorEq, AS, t1, t3, t4, t5, t6, t7, t8, t9, dr.Eld (show 1 < _ by simp), d2.Eix hil, d2.Eld hil, cell_int]
        exact ⟨true, rfl, fun h => by cases h⟩
      by_cases c2 : P[i] > 255
      · simp (maxSteps := 1000000) (disch := omega) only [ES, List.mem_cons, List.not_mem_nil, implies_true, forall_const, WS, List.getElem_cons_zero, List.getElem_cons_succ, Option.isNone_some, Option.isNone_none, List.getD_cons_zero, List.getD_cons_succ, I.at, atL, atO, atP, evp, evs, retV, ↓reduceIte, Nat.reduceEqDiff, reduceCtorEq, AS, t1, t3, t4, t5, t6, t7, t8, t9, dr.Eld (show 1 < _ by simp), d2.Eix hil, d2.Eld hil, cell_int]
        exact ⟨true, rfl, fun h => by cases h⟩
      rcases i with _ | i
      · simp (maxSteps := 1000000) (disch := omega) only [ES, List.mem_cons, List.not_mem_nil, implies_true, forall_const, WS, List.getElem_cons_zero, List.getElem_cons_succ, Option.isNone_some, Option.isNone_none, List.getD_cons_zero, List.getD_cons_succ, I.at, atL, atO, atP, evp, evs, retV, ↓reduceIte, Nat.reduceEqDiff, reduceCtorEq, AS, t1, t3, t4, t5, t6, t7, t8, t9, dr.Eld (show 1 < _ by simp), d2.Eix hil, d2.Eld hil, cell_int]
        exact ⟨false, rfl, fun _ => ⟨by omega, by omega, fun h h0 => by omega⟩⟩
      have e1 : IntKind.i64.wrap (((i + 1 : Nat) : Int) - 1) = (i : Int) := by rw [wrap_id (by omega) (by omega)]; omega
      have hil' : i < P.length := by omega
      by_cases c3 : P[i + 1] ≤ P[i]
      · simp (maxSteps := 1000000) (disch := omega) only [ES, List.mem_cons, List.not_mem_nil, implies_true, forall_const, WS, List.getElem_cons_zero, List.getElem_cons_succ, Option.isNone_some, Option.isNone_none, List.getD_cons_zero, List.getD_cons_succ, I.at, atL, atO, atP, evp, evs, retV, ↓reduceIte, Nat.reduceEqDiff, reduceCtorEq, AS, t1, t3, t4, t5, t6, t7, t8, t9, dr.Eld (show 1 < _ by simp), d2.Eix hil, d2.Eld hil, cell_int, e1, d2.Eix hil', d2.Eld hil']
        exact ⟨true, rfl, fun h => by cases h⟩
      · simp (maxSteps := 1000000) (disch := omega) only [ES, List.mem_cons, List.not_mem_nil, implies_true, forall_const, WS, List.getElem_cons_zero, List.getElem_cons_succ, Option.isNone_some, Option.isNone_none, List.getD_cons_zero, List.getD_cons_succ, I.at, atL, atO, atP, evp, evs, retV, ↓reduceIte, Nat.reduceEqDiff, reduceCtorEq, AS, t1, t3, t4, t5, t6, t7, t8, t9, dr.Eld (show 1 < _ by simp), d2.Eix hil, d2.Eld hil, cell_int, e1, d2.Eix hil', d2.Eld hil']
        exact ⟨false, rfl, fun _ => ⟨by omega, by omega, fun h h0 => by simp only [Nat.add_sub_cancel]; omega⟩⟩
    have bd := bel_drew w7
    have D := D.trans (bd.mono D.size)
    have gv := gv.up bd
    have gm := gm.up bd
    have gs := gs.up bd
    have oW := oW.up bd
    have z7 := Nat.le_trans z7 bd.size
    clear t1 t3 t4 t5 t6 t7 t8 t9 bd
    obtain ⟨rfl, t1, t3, t4, t5, t6, t7, t8, t9, c, t80, hc⟩ := hR
    cases c
    rotate_left
    · simp (maxSteps := 1000000) (disch := omega) only [WS, List.getElem_cons_zero, List.getElem_cons_succ, Option.isNone_some, Option.isNone_none, List.getD_cons_zero, List.getD_cons_succ, I.at, atL, atO, atP, evp, evs, retV, ↓reduceIte, Nat.reduceEqDiff, reduceCtorEq, AS, t80]
      exact B.trans (D.mono B.size)
    obtain ⟨q1, q2, q3⟩ := hc rfl
    clear hc
    obtain ⟨n, hn⟩ : ∃ n : Nat, P[i] = (n : Int) := ⟨P[i].toNat, by omega⟩
    have hasc' : asc P (i + 1) := fun x hx h => by
      by_cases e : x = i
      · subst e
        refine ⟨q1, q2, fun j hj h2 => ?_⟩
        have h3 := q3 (by omega) (by omega)
        by_cases e : j = x - 1
        · subst e; exact h3
        · have := (hasc (x - 1) (by omega) (by omega)).2.2 j hj (by omega)
          omega
      · exact hasc x hx (by omega)
    have hxi : nth (xsP P) i = en8 n := by
      rw [nth_get (by rw [xsP_len]; exact hil), xsP_get P (by rw [xsP_len]; exact hil) hil, hn]; rfl
    have u1 : IntKind.u8.wrap ((n : Nat) : Int) = ((en8 n).v.toNat : Int) := by rw [wrap_u8 _ (by omega), en8_v (by omega)]
    have iv : i < V.length := by omega
    have im : i < ML.length := by omega
    have is : i < S.length := by omega
    generalize w7.drew = w7 at *
    clear h2 hr d2 dr
    simp (maxSteps := 1000000) (disch := omega) only [WS, List.getElem_cons_zero, List.getElem_cons_succ, Option.isNone_some, Option.isNone_none, List.getD_cons_zero, List.getD_cons_succ, I.at, atL, atO, atP, evp, evs, retV, ↓reduceIte, Nat.reduceEqDiff, reduceCtorEq, AS, t80]
    refine WP_dops ?_
    have bd := bel_drew w7
    have D := D.trans (bd.mono D.size)
    have gv := gv.up bd
    have gm := gm.up bd
    have gs := gs.up bd
    have oW := oW.up bd
    have z7 := Nat.le_trans z7 bd.size
    have h1 := k1.up D
    have h2 := k2.up D
    have hr := kr.up D
    simp (maxSteps := 1000000) (disch := omega) only [ES, List.mem_cons, List.not_mem_nil, implies_true, forall_const, WS, List.getElem_cons_zero, List.getElem_cons_succ, Option.isNone_some, Option.isNone_none, List.getD_cons_zero, List.getD_cons_succ, I.at, atL, atO, atP, evp, evs, retV, ↓reduceIte, Nat.reduceEqDiff, reduceCtorEq, AS, t1, t3, t4, t5, t6, t7, t8, t9, hr.Eld (show 0 < _ by simp), hr.Eld (show 1 < _ by simp), h2.Eix hil, h2.Eld hil, cell_int, hn, u1]
    refine E_call0 ((culletlaw19_horner_spec w7.drew s1 C (en8 n) h1 (by omega)).mono ?_)
    rintro _ w8 ⟨rfl, hB⟩
    have z7 := Nat.le_trans z7 hB.size
    have D := D.trans (hB.mono D.size)
    have gv := gv.up hB
    have gm := gm.up hB
    have gs := gs.up hB
    have oW := oW.up hB
    clear hB bd h1 h2 hr
    simp (maxSteps := 1000000) (disch := omega) only [ES, List.mem_cons, List.not_mem_nil, implies_true, forall_const, WS, List.getElem_cons_zero, List.getElem_cons_succ, Option.isNone_some, Option.isNone_none, List.getD_cons_zero, List.getD_cons_succ, I.at, atL, atO, atP, evp, evs, retV, ↓reduceIte, Nat.reduceEqDiff, reduceCtorEq, AS, t1, t3, t4, t5, t6, t7, t8, t9, gv.sl.Eix iv]
    refine gv.Est iv (evl C (en8 n)) fun w9 c gv hg q4 q5 => ?_
    have gm := gm.grown hg (Or.inl (by omega))
    have gs := gs.grown hg (Or.inl (by omega))
    have oW := oW.grown hg (fun e => by have := (oW.blk c e).1; omega)
    have D := D.grown hg D.size (fun b hb => by cases hb; exact q4)
    have z7 := Nat.le_trans z7 hg.size
    have h3 := k3.up D
    have hr := kr.up D
    clear hg q4 q5
    simp (maxSteps := 1000000) (disch := omega) only [ES, List.mem_cons, List.not_mem_nil, implies_true, forall_const, WS, List.getElem_cons_zero, List.getElem_cons_succ, Option.isNone_some, Option.isNone_none, List.getD_cons_zero, List.getD_cons_succ, I.at, atL, atO, atP, evp, evs, retV, ↓reduceIte, Nat.reduceEqDiff, reduceCtorEq, AS, t1, t3, t4, t5, t6, t7, t8, t9, hr.Xld (show 2 < _ by simp), h3.Xlen]
    refine iteW_cut (fun t w' => t 1 = .pointer (some ⟨b, 0, none⟩) ∧ t 3 = .int .i64 (C.length : Int) ∧ t 4 = .int .i64 (P.length : Int) ∧ t 5 = sv ∧ t 6 = sm ∧ t 7 = ss ∧ t 8 = sW ∧ t 9 = .int .i64 (i : Int) ∧ RowKit.Below w2.heap.size w2 w' ∧ w6.heap.size ≤ w'.heap.size ∧ Seg w2.heap.size w4.heap.size w' sv (V.set i (evl C (en8 n))) ∧ Seg w4.heap.size w5.heap.size w' sm (ML.set i (nth M i)) ∧ Seg w5.heap.size w6.heap.size w' ss S ∧ Ow w6.heap.size w' sW ((wr (nth M) i).map fun j => P.getD j 0)) ?_ fun t w' hR => ?_
    · by_cases hm : i < M.length
      · simp (maxSteps := 1000000) (disch := omega) only [WS, List.getElem_cons_zero, List.getElem_cons_succ, Option.isNone_some, Option.isNone_none, List.getD_cons_zero, List.getD_cons_succ, I.at, atL, atO, atP, evp, evs, retV, ↓reduceIte, Nat.reduceEqDiff, reduceCtorEq, AS, t1, t3, t4, t5, t6, t7, t8, t9, hr.Xld (show 2 < _ by simp), h3.Xix hm, h3.Xld hm, gm.sl.Xix im]
        refine gm.Xst im M[i] fun w10 c gm hg q4 q5 => ?_
        have gv := gv.grown hg (Or.inr (by omega))
        have gs := gs.grown hg (Or.inl (by omega))
        have oW := oW.grown hg (fun e => by have := (oW.blk c e).1; omega)
        have D := D.grown hg D.size (fun b hb => by cases hb; omega)
        have z7 := Nat.le_trans z7 hg.size
        simp (maxSteps := 1000000) (disch := omega) only [WS, List.getElem_cons_zero, List.getElem_cons_succ, Option.isNone_some, Option.isNone_none, List.getD_cons_zero, List.getD_cons_succ, I.at, atL, atO, atP, evp, evs, retV, ↓reduceIte, Nat.reduceEqDiff, reduceCtorEq, AS, t1, t3, t4, t5, t6, t7, t8, t9]
        rw [nth_get hm]
        exact ⟨D, z7, gv, gm, gs, oW⟩
      · simp (maxSteps := 1000000) (disch := omega) only [WS, List.getElem_cons_zero, List.getElem_cons_succ, Option.isNone_some, Option.isNone_none, List.getD_cons_zero, List.getD_cons_succ, I.at, atL, atO, atP, evp, evs, retV, ↓reduceIte, Nat.reduceEqDiff, reduceCtorEq, AS, t1, t3, t4, t5, t6, t7, t8, t9]
        have : ML.set i (nth M i) = ML := by
          have e1 : nth M i = 0 := by unfold nth; rw [List.getD_eq_getElem?_getD, List.getElem?_eq_none (by omega)]; rfl
          have e2 := hML i
          rw [if_neg (by omega), nth_get im] at e2
          rw [e1, ← e2, List.set_getElem_self]
        rw [this]
        exact ⟨D, z7, gv, gm, gs, oW⟩
    clear t1 t3 t4 t5 t6 t7 t8 t9 D z7 gv gm gs oW h3 hr
    obtain ⟨t1, t3, t4, t5, t6, t7, t8, t9, D, z7, gv, gm, gs, oW⟩ := hR
    have iv' : i < (V.set i (evl C (en8 n))).length := by rw [List.length_set]; exact iv
    have im' : i < (ML.set i (nth M i)).length := by rw [List.length_set]; exact im
    have ev : (V.set i (evl C (en8 n)))[i] = evl C (en8 n) := List.getElem_set_self ..
    have em : (ML.set i (nth M i))[i] = nth M i := List.getElem_set_self ..
    simp (maxSteps := 1000000) (disch := omega) only [WS, List.getElem_cons_zero, List.getElem_cons_succ, Option.isNone_some, Option.isNone_none, List.getD_cons_zero, List.getD_cons_succ, I.at, atL, atO, atP, evp, evs, retV, ↓reduceIte, Nat.reduceEqDiff, reduceCtorEq, AS]
    refine WP_dops ?_
    have bd := bel_drew w'
    have D := D.trans (bd.mono D.size)
    have gv := gv.up bd
    have gm := gm.up bd
    have gs := gs.up bd
    have oW := oW.up bd
    have z7 := Nat.le_trans z7 bd.size
    clear bd
    simp (maxSteps := 1000000) (disch := omega) only [ES, List.mem_cons, List.not_mem_nil, implies_true, forall_const, WS, List.getElem_cons_zero, List.getElem_cons_succ, Option.isNone_some, Option.isNone_none, List.getD_cons_zero, List.getD_cons_succ, I.at, atL, atO, atP, evp, evs, retV, ↓reduceIte, Nat.reduceEqDiff, reduceCtorEq, AS, t1, t3, t4, t5, t6, t7, t8, t9, gv.sl.Eix iv', gv.sl.Eld iv', gm.sl.Eix im', gm.sl.Eld im', cell_e8, ev, em, xor8, gs.sl.Eix is]
    refine gs.Est is (evl C (en8 n) + nth M i) fun w10 c gs hg q4 q5 => ?_
    have gv := gv.grown hg (Or.inr (by omega))
    have gm := gm.grown hg (Or.inr (by omega))
    have oW := oW.grown hg (fun e => by have := (oW.blk c e).1; omega)
    have D := D.grown hg D.size (fun b hb => by cases hb; omega)
    have z7 := Nat.le_trans z7 hg.size
    clear hg q4 q5
    have hV' : ∀ j, j < i + 1 → nth (V.set i (evl C (en8 n))) j = evl C (nth (xsP P) j) := fun j hj => by
      rw [nth_set iv]
      split
      · rename_i e; rw [e, hxi]
      · exact hV j (by omega)
    have hML' : ∀ j, nth (ML.set i (nth M i)) j = if j < i + 1 then nth M j else 0 := fun j => by
      rw [nth_set im]
      split
      · rename_i e; rw [e, if_pos (by omega)]
      · rw [hML j]
        by_cases h : j < i
        · rw [if_pos h, if_pos (by omega)]
        · rw [if_neg h, if_neg (by omega)]
    have hS' : ∀ j, j < i + 1 → nth (S.set i (evl C (en8 n) + nth M i)) j = evl C (nth (xsP P) j) + nth M j := fun j hj => by
      rw [nth_set is]
      split
      · rename_i e; rw [e, hxi]
      · exact hS j (by omega)
    have hWl : ((wr (nth M) i).map fun j => P.getD j 0).length ≤ i := by rw [List.length_map]; exact wr_len _ _
    have hw := wr_succ (nth M) i
    by_cases hz : nth M i = 0
    · rw [if_pos hz, List.append_nil] at hw
      have hz0 : (((nth M i).v.toNat : Nat) : Int) = 0 := by rw [hz]; rfl
      simp (maxSteps := 1000000) (disch := omega) only [ES, List.mem_cons, List.not_mem_nil, implies_true, forall_const, WS, List.getElem_cons_zero, List.getElem_cons_succ, Option.isNone_some, Option.isNone_none, List.getD_cons_zero, List.getD_cons_succ, I.at, atL, atO, atP, evp, evs, retV, ↓reduceIte, Nat.reduceEqDiff, reduceCtorEq, AS, t1, t3, t4, t5, t6, t7, t8, t9, gm.sl.Xix im', gm.sl.Xld im', cell_e8, em, hz0, show decide ((0 : Int) ≠ 0) = false from rfl]
      exact ⟨⟨D, z7, i + 1, sW, _, _, _, rfl, by omega, rfl, hasc', gv, gm, gs, by rw [List.length_set]; exact lV, by rw [List.length_set]; exact lML, by rw [List.length_set]; exact lS, hV', hML', hS', by rw [hw]; exact oW⟩, by omega⟩
    · rw [if_neg hz] at hw
      have hz0 : (((nth M i).v.toNat : Nat) : Int) ≠ 0 := fun e => hz (El.ext (BitVec.eq_of_toNat_eq (by show (nth M i).v.toNat = 0; omega)))
      have h2 := k2.up D
      have hr := kr.up D
      simp (maxSteps := 1000000) (disch := omega) only [ES, List.mem_cons, List.not_mem_nil, implies_true, forall_const, WS, List.getElem_cons_zero, List.getElem_cons_succ, Option.isNone_some, Option.isNone_none, List.getD_cons_zero, List.getD_cons_succ, I.at, atL, atO, atP, evp, evs, retV, ↓reduceIte, Nat.reduceEqDiff, reduceCtorEq, AS, t1, t3, t4, t5, t6, t7, t8, t9, gm.sl.Xix im', gm.sl.Xld im', cell_e8, em, hz0, ne_eq, not_false_eq_true, decide_true, hr.Xld (show 1 < _ by simp), h2.Xix hil, h2.Xld hil, cell_int]
      refine X_bsl (zs := [P[i]]) (by rfl) (by rfl) fun e0 w11 oe hB => ?_
      have D := D.trans (hB.mono D.size)
      have z7 := Nat.le_trans z7 hB.size
      have gv := gv.up hB
      have gm := gm.up hB
      have gs := gs.up hB
      have oW := oW.up hB
      clear hB
      simp (maxSteps := 1000000) (disch := omega) only [WS, List.getElem_cons_zero, List.getElem_cons_succ, Option.isNone_some, Option.isNone_none, List.getD_cons_zero, List.getD_cons_succ, I.at, atL, atO, atP, evp, evs, retV, ↓reduceIte, Nat.reduceEqDiff, reduceCtorEq, AS, t1, t3, t4, t5, t6, t7, t8, t9]
      refine Ow.Xapp oW oe.sl z7 (by simp only [List.length_singleton, maxBytes]; omega) (by simp only [List.length_singleton]; omega) fun e1 w12 oW2 hg _ => ?_
      have hlo : ∀ b, Fw.blk sW = some b → w6.heap.size ≤ b := fun b hb => (oW.blk b hb).1
      have gv := seg_app gv (ne_nil_of iv') hg (fun b hb => by have := hlo b hb; omega)
      have gm := seg_app gm (ne_nil_of im') hg (fun b hb => by have := hlo b hb; omega)
      have gs := seg_app gs (ne_nil_of (i := i) (by rw [List.length_set]; exact is)) hg (fun b hb => by have := hlo b hb; omega)
      have D := Below.app D D.size hg fun b hb => by have := hlo b hb; omega
      have z7 := Nat.le_trans z7 hg.size
      simp (maxSteps := 1000000) (disch := omega) only [WS, List.getElem_cons_zero, List.getElem_cons_succ, Option.isNone_some, Option.isNone_none, List.getD_cons_zero, List.getD_cons_succ, I.at, atL, atO, atP, evp, evs, retV, ↓reduceIte, Nat.reduceEqDiff, reduceCtorEq, AS, t1, t3, t4, t5, t6, t7, t9]
      refine ⟨⟨D, z7, i + 1, e1, _, _, _, rfl, by omega, rfl, hasc', gv, gm, gs, by rw [List.length_set]; exact lV, by rw [List.length_set]; exact lML, by rw [List.length_set]; exact lS, hV', hML', hS', ?_⟩, by omega⟩
      have : P.getD i 0 = P[i] := by rw [List.getD_eq_getElem?_getD, List.getElem?_eq_getElem hil]; rfl
      rw [hw, List.map_append, List.map_cons, List.map_nil, this]
      exact oW2
  obtain rfl : i = P.length := by omega
  have hX := xsP_dist hasc
  have cl : C.length ≤ P.length := by omega
  have eML : ∀ j, j < P.length → nth ML j = nth M j := fun j hj => by rw [hML j, if_pos hj]
  have off := offs_spoilt (X := nth (xsP P)) (S := nth S) (M := nth M) (p := C) (N := P.length) hS
  have hwr : wr (nth ML) P.length = wr (nth M) P.length := List.filter_congr fun j hj => by rw [eML j (List.mem_range.1 hj)]
  have hSM : ∀ j, j < P.length → nth S j = evl C (nth (xsP P) j) + nth ML j := fun j hj => by rw [hS j hj, eML j hj]
  have hsyn := nw_syn (X := nth (xsP P)) (S := nth S) (M := nth ML) (N := P.length) hX cl hSM
  have B := B.trans (D.mono B.size)
  have h2 := k2.up D
  have hr := kr.up D
  have gv := gv.sl
  have gm := gm.sl
  have gs := gs.sl
  have oW := oW.sl
  obtain ⟨Wl, hWl⟩ : ∃ Wl, Wl = (wr (nth M) P.length).map fun j => P.getD j 0 := ⟨_, rfl⟩
  have lW : Wl.length = (wr (nth M) P.length).length := by rw [hWl, List.length_map]
  have lWn := wr_len (nth M) P.length
  rw [← hWl] at oW
  clear D z7 k1 k2 k3 kr hML hS
  simp (maxSteps := 1000000) (disch := omega) only [WS, List.getElem_cons_zero, List.getElem_cons_succ, Option.isNone_some, Option.isNone_none, List.getD_cons_zero, List.getD_cons_succ, I.at, atL, atO, atP, evp, evs, retV, ↓reduceIte, Nat.reduceEqDiff, reduceCtorEq, AS, t1, t3, t4, t5, t6, t7, t8, t9]
  refine X_bslE fun p0 w8 op hB0 => ?_
  simp (maxSteps := 1000000) (disch := omega) only [WS, List.getElem_cons_zero, List.getElem_cons_succ, Option.isNone_some, Option.isNone_none, List.getD_cons_zero, List.getD_cons_succ, I.at, atL, atO, atP, evp, evs, retV, ↓reduceIte, Nat.reduceEqDiff, reduceCtorEq, AS, t1, t3, t4, t5, t6, t7, t8, t9, (hr.up hB0).Xld (show 1 < _ by simp)]
  refine op.Xapp (h2.up hB0) hB0 hB0.size (by simp only [maxBytes]; omega) (by decide) (by omega) fun c1 w9 oc hB _ => ?_
  have oc := oc.sl
  have h2 := h2.up hB
  have hr := hr.up hB
  have gv := gv.up hB
  have gm := gm.up hB
  have gs := gs.up hB
  have oW := oW.up hB
  have B := B.trans (hB.mono B.size)
  clear hB
  clear hB0 op
  simp (maxSteps := 1000000) (disch := omega) only [WS, List.getElem_cons_zero, List.getElem_cons_succ, Option.isNone_some, Option.isNone_none, List.getD_cons_zero, List.getD_cons_succ, I.at, atL, atO, atP, evp, evs, retV, ↓reduceIte, Nat.reduceEqDiff, reduceCtorEq, AS, t1, t3, t4, t5, t6, t7, t8, t9]
  refine X_call0 ((mend_Syndromes_spec w9 (C.length : Int) c1 ss P S oc gs (by omega) (by omega)).mono ?_)
  rintro vv w10 ⟨hB, hres⟩
  obtain ⟨sA, A, rfl, oA, lA, hA⟩ : ∃ (s : Value) (A : List (El 8)), vv = .tuple #[s, .int .i64 0] ∧ Ow w9.heap.size w10 s A ∧ A.length = P.length - C.length ∧ ∀ i, i < A.length → (co A).c i = (nw (nth (xsP P)) (nth S) 0 P.length).c (C.length + i) := by
    rcases hres with ⟨h9, -⟩ | ⟨-, h9, -⟩ | ⟨-, -, h9, -⟩ | ⟨-, -, -, h9, -⟩ | ⟨-, -, -, -, s, A, h5, h6, h7, h8⟩
    · omega
    · exact absurd hasc h9
    · exact absurd lS h9
    · omega
    · exact ⟨s, A, h5, h6, h7, h8 (xsP P) (xsP_len P) (xsP_val hasc)⟩
  clear hres
  have oA := oA.sl
  have h2 := h2.up hB
  have hr := hr.up hB
  have gv := gv.up hB
  have gm := gm.up hB
  have gs := gs.up hB
  have oW := oW.up hB
  have B := B.trans (hB.mono B.size)
  clear hB
  simp (maxSteps := 1000000) (disch := omega) only [WS, List.getElem_cons_zero, List.getElem_cons_succ, Option.isNone_some, Option.isNone_none, List.getD_cons_zero, List.getD_cons_succ, I.at, atL, atO, atP, evp, evs, retV, ↓reduceIte, Nat.reduceEqDiff, reduceCtorEq, AS, t1, t3, t4, t5, t6, t7, t8, t9]
  refine X_bslE fun p0 w11 op hB0 => ?_
  simp (maxSteps := 1000000) (disch := omega) only [WS, List.getElem_cons_zero, List.getElem_cons_succ, Option.isNone_some, Option.isNone_none, List.getD_cons_zero, List.getD_cons_succ, I.at, atL, atO, atP, evp, evs, retV, ↓reduceIte, Nat.reduceEqDiff, reduceCtorEq, AS, t1, t3, t4, t5, t6, t7, t8, t9, (hr.up hB0).Xld (show 1 < _ by simp)]
  refine op.Xapp (h2.up hB0) hB0 hB0.size (by simp only [maxBytes]; omega) (by decide) (by omega) fun c1 w12 oc hB _ => ?_
  have oc := oc.sl
  have h2 := h2.up hB
  have hr := hr.up hB
  have gv := gv.up hB
  have gm := gm.up hB
  have gs := gs.up hB
  have oW := oW.up hB
  have oA := oA.up hB
  have B := B.trans (hB.mono B.size)
  clear hB
  clear hB0 op
  simp (maxSteps := 1000000) (disch := omega) only [WS, List.getElem_cons_zero, List.getElem_cons_succ, Option.isNone_some, Option.isNone_none, List.getD_cons_zero, List.getD_cons_succ, I.at, atL, atO, atP, evp, evs, retV, ↓reduceIte, Nat.reduceEqDiff, reduceCtorEq, AS, t1, t3, t4, t5, t6, t7, t8, t9]
  refine X_call0 ((mend_Syndromes_spec w12 (C.length : Int) c1 sm P ML oc gm (by omega) (by omega)).mono ?_)
  rintro vv w13 ⟨hB, hres⟩
  obtain ⟨sA2, A2, rfl, oA2, lA2, hA2⟩ : ∃ (s : Value) (A : List (El 8)), vv = .tuple #[s, .int .i64 0] ∧ Ow w12.heap.size w13 s A ∧ A.length = P.length - C.length ∧ ∀ i, i < A.length → (co A).c i = (nw (nth (xsP P)) (nth ML) 0 P.length).c (C.length + i) := by
    rcases hres with ⟨h9, -⟩ | ⟨-, h9, -⟩ | ⟨-, -, h9, -⟩ | ⟨-, -, -, h9, -⟩ | ⟨-, -, -, -, s, A, h5, h6, h7, h8⟩
    · omega
    · exact absurd hasc h9
    · exact absurd lML h9
    · omega
    · exact ⟨s, A, h5, h6, h7, h8 (xsP P) (xsP_len P) (xsP_val hasc)⟩
  clear hres
  have oA2 := oA2.sl
  have h2 := h2.up hB
  have hr := hr.up hB
  have gv := gv.up hB
  have gm := gm.up hB
  have gs := gs.up hB
  have oW := oW.up hB
  have oA := oA.up hB
  have B := B.trans (hB.mono B.size)
  clear hB
  have hAA : A2 = A := List.ext_getElem (by omega) fun i a1 a2 => by
    rw [← co_get A2 a1, ← co_get A a2, hA i a2, hA2 i a1, hsyn, Ps.add_c, co_dg C (C.length + i) (by omega), El.zero_add]
  subst hAA
  have hz : (wr (nth M) P.length).length + C.length ≤ P.length → ((∀ i, i < A2.length → nth A2 i = 0) ↔ wr (nth M) P.length = []) := fun h => by
    rw [← hwr] at h ⊢
    rw [← syn_zero hX cl h]
    refine ⟨fun h i hi => ?_, fun h i hi => ?_⟩
    · rw [← hA2 i (by omega)]; exact h i (by omega)
    · have := h i (by omega)
      rw [← hA2 i hi] at this
      exact this
  have e1 : IntKind.i64.wrap ((P.length : Int) - (C.length : Int)) = ((P.length - C.length : Nat) : Int) := by rw [wrap_id (by omega) (by omega)]; omega
  have hl1 : ((A2.length : Nat) : Int) = ((P.length - C.length : Nat) : Int) := by omega
  simp (maxSteps := 1000000) (disch := omega) only [WS, List.getElem_cons_zero, List.getElem_cons_succ, Option.isNone_some, Option.isNone_none, List.getD_cons_zero, List.getD_cons_succ, I.at, atL, atO, atP, evp, evs, retV, ↓reduceIte, Nat.reduceEqDiff, reduceCtorEq, AS, show decide ((0 : Int) ≠ 0) = false from rfl, oA.Xlen, t3, t4, e1, hl1, ne_eq, not_true_eq_false, decide_false]
  refine X_call0 ((culletlaw19_sameBytes_spec w13 sA sA2 A2 A2 oA oA2 (by omega) (by omega)).mono ?_)
  rintro _ w14 ⟨rfl, hk⟩
  have hB := hk.1
  clear hk
  have h2 := h2.up hB
  have hr := hr.up hB
  have gv := gv.up hB
  have gm := gm.up hB
  have gs := gs.up hB
  have oW := oW.up hB
  have oA := oA.up hB
  have B := B.trans (hB.mono B.size)
  clear hB
  simp (maxSteps := 1000000) (disch := omega) only [WS, List.getElem_cons_zero, List.getElem_cons_succ, Option.isNone_some, Option.isNone_none, List.getD_cons_zero, List.getD_cons_succ, I.at, atL, atO, atP, evp, evs, retV, ↓reduceIte, Nat.reduceEqDiff, reduceCtorEq, AS, decide_eq_true rfl, t1, t3, t4, t5, t6, t7, t8]
  have w14s : RowKit.Below w14.heap.size w14 w14 := RowKit.Below.refl _ _
  refine loop_of (fun t w' => w' = w14 ∧ t 1 = .pointer (some ⟨b, 0, none⟩) ∧ t 3 = .int .i64 (C.length : Int) ∧ t 4 = .int .i64 (P.length : Int) ∧ t 5 = sv ∧ t 7 = ss ∧ t 8 = sW ∧ t 10 = sA ∧ ∃ i : Nat, t 15 = .int .i64 (i : Int) ∧ i ≤ A2.length ∧ t 14 = .bool (decide (∀ j, j < i → nth A2 j = 0))) (fun t _ => A2.length - (toI (t 15)).toNat)
    ⟨rfl, by simp only [WS, List.getElem_cons_zero, List.getElem_cons_succ, Option.isNone_some, Option.isNone_none, List.getD_cons_zero, List.getD_cons_succ, I.at, atL, atO, atP, evp, evs, retV, ↓reduceIte, Nat.reduceEqDiff, reduceCtorEq]; exact t1, by simp only [WS, List.getElem_cons_zero, List.getElem_cons_succ, Option.isNone_some, Option.isNone_none, List.getD_cons_zero, List.getD_cons_succ, I.at, atL, atO, atP, evp, evs, retV, ↓reduceIte, Nat.reduceEqDiff, reduceCtorEq]; exact t3, by simp only [WS, List.getElem_cons_zero, List.getElem_cons_succ, Option.isNone_some, Option.isNone_none, List.getD_cons_zero, List.getD_cons_succ, I.at, atL, atO, atP, evp, evs, retV, ↓reduceIte, Nat.reduceEqDiff, reduceCtorEq]; exact t4, by simp only [WS, List.getElem_cons_zero, List.getElem_cons_succ, Option.isNone_some, Option.isNone_none, List.getD_cons_zero, List.getD_cons_succ, I.at, atL, atO, atP, evp, evs, retV, ↓reduceIte, Nat.reduceEqDiff, reduceCtorEq]; exact t5, by simp only [WS, List.getElem_cons_zero, List.getElem_cons_succ, Option.isNone_some, Option.isNone_none, List.getD_cons_zero, List.getD_cons_succ, I.at, atL, atO, atP, evp, evs, retV, ↓reduceIte, Nat.reduceEqDiff, reduceCtorEq]; exact t7, by simp only [WS, List.getElem_cons_zero, List.getElem_cons_succ, Option.isNone_some, Option.isNone_none, List.getD_cons_zero, List.getD_cons_succ, I.at, atL, atO, atP, evp, evs, retV, ↓reduceIte, Nat.reduceEqDiff, reduceCtorEq]; exact t8, by simp only [WS, List.getElem_cons_zero, List.getElem_cons_succ, Option.isNone_some, Option.isNone_none, List.getD_cons_zero, List.getD_cons_succ, I.at, atL, atO, atP, evp, evs, retV, ↓reduceIte, Nat.reduceEqDiff, reduceCtorEq], 0, by simp only [WS, List.getElem_cons_zero, List.getElem_cons_succ, Option.isNone_some, Option.isNone_none, List.getD_cons_zero, List.getD_cons_succ, I.at, atL, atO, atP, evp, evs, retV, ↓reduceIte, Nat.reduceEqDiff, reduceCtorEq]; rfl, by omega, by rw [decide_eq_true (show ∀ j, j < 0 → nth A2 j = 0 from fun j hj => absurd hj (Nat.not_lt_zero _))]; simp only [WS, List.getElem_cons_zero, List.getElem_cons_succ, Option.isNone_some, Option.isNone_none, List.getD_cons_zero, List.getD_cons_succ, I.at, atL, atO, atP, evp, evs, retV, ↓reduceIte, Nat.reduceEqDiff, reduceCtorEq]⟩ ?_
  clear t1 t3 t4 t5 t6 t7 t8 t9 w14s
  rintro t w' ⟨rfl, t1, t3, t4, t5, t7, t8, t10, i, t15, hi, t14⟩
  by_cases hil : i < A2.length
  · by_cases hz1 : ∀ j, j < i → nth A2 j = 0
    · rw [decide_eq_true hz1] at t14
      by_cases hz2 : nth A2 i = 0
      · have hz3 : ∀ j, j < i + 1 → nth A2 j = 0 := fun j hj => by
          by_cases e : j = i
          · rw [e]; exact hz2
          · exact hz1 j (by omega)
        have ez : ((A2[i].v.toNat : Nat) : Int) = 0 := by rw [← nth_get hil, hz2]; rfl
        simp (maxSteps := 1000000) (disch := omega) only [WS, List.getElem_cons_zero, List.getElem_cons_succ, Option.isNone_some, Option.isNone_none, List.getD_cons_zero, List.getD_cons_succ, I.at, atL, atO, atP, evp, evs, retV, ↓reduceIte, Nat.reduceEqDiff, reduceCtorEq, AS, t1, t3, t4, t5, t7, t8, t10, t14, t15, oA.Xlen, oA.Xix hil, oA.Xld hil, cell_e8, ez, show decide ((0 : Int) = 0) = true from rfl]
        exact ⟨⟨i + 1, rfl, by omega, by rw [decide_eq_true hz3]⟩, by omega⟩
      · have hz3 : ¬ ∀ j, j < i + 1 → nth A2 j = 0 := fun h => hz2 (h i (by omega))
        have ez : ((A2[i].v.toNat : Nat) : Int) ≠ 0 := fun e => hz2 (by rw [nth_get hil]; exact El.ext (BitVec.eq_of_toNat_eq (by show A2[i].v.toNat = 0; omega)))
        simp (maxSteps := 1000000) (disch := omega) only [WS, List.getElem_cons_zero, List.getElem_cons_succ, Option.isNone_some, Option.isNone_none, List.getD_cons_zero, List.getD_cons_succ, I.at, atL, atO, atP, evp, evs, retV, ↓reduceIte, Nat.reduceEqDiff, reduceCtorEq, AS, t1, t3, t4, t5, t7, t8, t10, t14, t15, oA.Xlen, oA.Xix hil, oA.Xld hil, cell_e8, decide_eq_false ez]
        exact ⟨⟨i + 1, rfl, by omega, by rw [decide_eq_false hz3]⟩, by omega⟩
    · have hz3 : ¬ ∀ j, j < i + 1 → nth A2 j = 0 := fun h => hz1 fun j hj => h j (by omega)
      rw [decide_eq_false hz1] at t14
      simp (maxSteps := 1000000) (disch := omega) only [WS, List.getElem_cons_zero, List.getElem_cons_succ, Option.isNone_some, Option.isNone_none, List.getD_cons_zero, List.getD_cons_succ, I.at, atL, atO, atP, evp, evs, retV, ↓reduceIte, Nat.reduceEqDiff, reduceCtorEq, AS, t1, t3, t4, t5, t7, t8, t10, t14, t15, oA.Xlen]
      exact ⟨⟨i + 1, rfl, by omega, by rw [decide_eq_false hz3]⟩, by omega⟩
  obtain rfl : i = A2.length := by omega
  have e2 : IntKind.i64.wrap (2 * (Wl.length : Int)) = 2 * (Wl.length : Int) := wrap_id (by omega) (by omega)
  by_cases hfar : 2 * (Wl.length : Int) > ((P.length - C.length : Nat) : Int)
  · simp (maxSteps := 1000000) (disch := omega) only [WS, List.getElem_cons_zero, List.getElem_cons_succ, Option.isNone_some, Option.isNone_none, List.getD_cons_zero, List.getD_cons_succ, I.at, atL, atO, atP, evp, evs, retV, ↓reduceIte, Nat.reduceEqDiff, reduceCtorEq, AS, t1, t3, t4, t5, t7, t8, t10, t14, t15, oA.Xlen, oW.Xlen, e1, e2]
    exact B
  have hzz := hz (by omega)
  have hzb : decide (∀ j, j < A2.length → nth A2 j = 0) = decide ((Wl.length : Int) = 0) := decide_eq_decide.2 (hzz.trans (by rw [← List.length_eq_zero_iff, ← lW]; omega))
  rw [hzb] at t14
  have hbb : ((decide ((Wl.length : Int) = 0) == decide ((Wl.length : Int) = 0)) != true) = false := by rw [beq_self_eq_true]; rfl
  simp (maxSteps := 1000000) (disch := omega) only [WS, List.getElem_cons_zero, List.getElem_cons_succ, Option.isNone_some, Option.isNone_none, List.getD_cons_zero, List.getD_cons_succ, I.at, atL, atO, atP, evp, evs, retV, ↓reduceIte, Nat.reduceEqDiff, reduceCtorEq, AS, t1, t3, t4, t5, t7, t8, t10, t14, t15, oA.Xlen, oW.Xlen, e1, e2, hbb]
  refine X_call0 ((mend_Radius_spec w' (C.length : Int) (P.length : Int) (by omega) (by omega)).mono ?_)
  rintro _ w15 ⟨rfl, ⟨h9, -⟩ | ⟨-, h9, -⟩ | ⟨-, -, rfl⟩⟩
  · omega
  · omega
  simp (maxSteps := 1000000) (disch := omega) only [WS, List.getElem_cons_zero, List.getElem_cons_succ, Option.isNone_some, Option.isNone_none, List.getD_cons_zero, List.getD_cons_succ, I.at, atL, atO, atP, evp, evs, retV, ↓reduceIte, Nat.reduceEqDiff, reduceCtorEq, AS, t1, t3, t4, t5, t7, t8]
  refine X_bslE fun p0 w16 op hB0 => ?_
  simp (maxSteps := 1000000) (disch := omega) only [WS, List.getElem_cons_zero, List.getElem_cons_succ, Option.isNone_some, Option.isNone_none, List.getD_cons_zero, List.getD_cons_succ, I.at, atL, atO, atP, evp, evs, retV, ↓reduceIte, Nat.reduceEqDiff, reduceCtorEq, AS, t1, t3, t4, t5, t7, t8, (hr.up hB0).Xld (show 1 < _ by simp)]
  refine op.Xapp (h2.up hB0) hB0 hB0.size (by simp only [maxBytes]; omega) (by decide) (by omega) fun c1 w17 oc hB _ => ?_
  have oc := oc.sl
  have gv := gv.up hB
  have gs := gs.up hB
  have oW := oW.up hB
  have B := B.trans (hB.mono B.size)
  clear hB
  clear hB0 op
  simp (maxSteps := 1000000) (disch := omega) only [WS, List.getElem_cons_zero, List.getElem_cons_succ, Option.isNone_some, Option.isNone_none, List.getD_cons_zero, List.getD_cons_succ, I.at, atL, atO, atP, evp, evs, retV, ↓reduceIte, Nat.reduceEqDiff, reduceCtorEq, AS, t1, t3, t4, t5, t7, t8]
  have hoff : offP (tr C) P S = wr (nth M) P.length := off
  have htl : (tr C).length ≤ C.length := by rw [tr_len]; exact tln_le C
  refine X_call0 ((mend_Column_near w17 C.length c1 ss P S (tr C) oc gs (by omega) cl (by omega) lS hasc (tr_tr C) htl (by rw [hoff, ← lW]; omega)).mono ?_)
  rintro _ w18 ⟨hB, sF, sO, rfl, oF, oO⟩
  rw [hoff, ← hWl] at oO
  have hfx : (xsP P).map (evl (tr C)) = V := List.ext_getElem (by rw [List.length_map, xsP_len, lV]) fun j a1 a2 => by
    have := hV j (by omega)
    rw [nth_get a2, nth_get (by rw [xsP_len]; omega)] at this
    rw [List.getElem_map, this, evl_eq _ (tr_co C)]
  rw [hfx] at oF
  have oF := oF.sl
  have oO := oO.sl
  have gv := gv.up hB
  have gs := gs.up hB
  have oW := oW.up hB
  have B := B.trans (hB.mono B.size)
  clear hB
  have e3 : IntKind.i64.wrap ((P.length : Int) - (C.length : Int)) = (P.length : Int) - (C.length : Int) := wrap_id (by omega) (by omega)
  have e4 : ((P.length : Int) - (C.length : Int)).tdiv 2 = ((P.length : Int) - (C.length : Int)) / 2 := Int.tdiv_eq_ediv_of_nonneg (by omega)
  have e5 : IntKind.i64.wrap (((P.length : Int) - (C.length : Int)) / 2) = ((P.length : Int) - (C.length : Int)) / 2 := wrap_id (by omega) (by omega)
  have hn2 : ((2 : Int) ≠ 0) = True := eq_true (by decide)
  simp (maxSteps := 1000000) (disch := omega) only [WS, List.getElem_cons_zero, List.getElem_cons_succ, Option.isNone_some, Option.isNone_none, List.getD_cons_zero, List.getD_cons_succ, I.at, atL, atO, atP, evp, evs, retV, ↓reduceIte, Nat.reduceEqDiff, reduceCtorEq, AS, t1, t3, t4, t5, t7, t8, show decide ((0 : Int) = 0) = true from rfl, X_quo, hn2, e3, e4, e5, decide_eq_true rfl]
  refine X_call0 ((culletlaw19_sameBytes_spec w18 sF sv V V oF gv (by omega) (by omega)).mono ?_)
  rintro _ w19 ⟨rfl, hk⟩
  have hB := hk.1
  clear hk
  have oO := oO.up hB
  have oW := oW.up hB
  have B := B.trans (hB.mono B.size)
  clear hB
  simp (maxSteps := 1000000) (disch := omega) only [WS, List.getElem_cons_zero, List.getElem_cons_succ, Option.isNone_some, Option.isNone_none, List.getD_cons_zero, List.getD_cons_succ, I.at, atL, atO, atP, evp, evs, retV, ↓reduceIte, Nat.reduceEqDiff, reduceCtorEq, AS, t8, decide_eq_true rfl]
  refine X_call0 ((culletlaw19_sameInts_spec w19 sO sW Wl Wl oO oW (by omega) (by omega)).mono ?_)
  rintro _ w20 ⟨rfl, hk⟩
  have hB := hk.1
  clear hk
  have B := B.trans (hB.mono B.size)
  clear hB
  simp (maxSteps := 1000000) (disch := omega) only [WS, List.getElem_cons_zero, List.getElem_cons_succ, Option.isNone_some, Option.isNone_none, List.getD_cons_zero, List.getD_cons_succ, I.at, atL, atO, atP, evp, evs, retV, ↓reduceIte, Nat.reduceEqDiff, reduceCtorEq, AS, decide_eq_true rfl]
  exact B
end Go.Proofs.Ytbaljbadlfopgaa.Fw
