import Derived.Test.YtpmfeaajpjjfiaaProg
import Derived.Test.YtpmfeaajpjjfiaaFwTI
import Derived.Test.YtpmfeaajpjjfiaaSS14wI
import Derived.Test.YtpmfeaajpjjfiaaFwYI
set_option linter.all false
set_option linter.unusedVariables false
set_option linter.unusedSimpArgs false
set_option maxRecDepth 100000
set_option maxHeartbeats 1000000
namespace Go.Proofs.Ytpmfeaajpjjfiaa.Fw
open Go Go.Fw Go.Proofs
attribute [local irreducible] stepI
def c_culletlaw14_AfftLists : C := .seq (.ops [⟨0, (some 6), none, .mov (.c (.bool false)), []⟩]) (.seq (.seq (.ops [⟨0, (some 53), none, .call (.c (.func (.func 14) #[] #[])) [], []⟩, ⟨1, (some 54), none, .un .not (.t 53), []⟩]) (.ite (.t 54) (.seq (.ops [⟨0, (some 6), none, .mov (.c (.bool false)), []⟩]) .ret) .skip)) (.seq (.ops [⟨0, (some 55), none, .bsl 31 0 [.int .u16 0] [], []⟩, ⟨1, (some 56), none, .mov (.t 0), []⟩, ⟨2, (some 57), none, .call (.c (.func (.func 15) #[] #[])) [.t 56, .c (.int .i64 64)], []⟩, ⟨3, (some 58), none, .app 31 2 [.int .u16 0] (.t 55) (.t 57), []⟩, ⟨4, (some 0), none, .mov (.t 58), []⟩]) (.seq (.seq (.ops [⟨0, (some 59), none, .mov (.t 0), []⟩, ⟨1, (some 60), none, .len (.t 59), []⟩, ⟨2, (some 61), none, .bin .eql (.t 60) (.c (.int .i64 0)), []⟩]) (.ite (.t 61) (.seq (.ops [⟨0, (some 6), none, .mov (.c (.bool true)), []⟩]) .ret) .skip)) (.seq (.ops [⟨0, (some 62), none, .mov (.t 0), []⟩, ⟨1, (some 63), none, .len (.t 62), []⟩, ⟨2, (some 7), none, .mov (.t 63), []⟩]) (.seq (.ops [⟨0, (some 64), none, .mov (.t 1), []⟩, ⟨1, (some 65), none, .mov (.t 7), []⟩, ⟨2, (some 66), none, .call (.c (.func (.func 16) #[] #[])) [.t 64, .t 65], []⟩, ⟨3, (some 8), none, .mov (.t 66), []⟩]) (.seq (.ops [⟨0, (some 67), none, .mov (.t 1), []⟩, ⟨1, (some 68), none, .bin .add (.t 67) (.c (.int .i64 1)), []⟩, ⟨2, (some 69), none, .mov (.t 7), []⟩, ⟨3, (some 70), none, .call (.c (.func (.func 16) #[] #[])) [.t 68, .t 69], []⟩, ⟨4, (some 9), none, .mov (.t 70), []⟩]) (.seq (.ops [⟨0, (some 71), none, .bsl 31 0 [.int .u16 0] [], []⟩, ⟨1, (some 72), none, .mov (.t 0), []⟩, ⟨2, (some 73), none, .app 31 2 [.int .u16 0] (.t 71) (.t 72), []⟩, ⟨3, (some 10), none, .mov (.t 73), []⟩]) (.seq (.ops [⟨0, (some 75), none, .mov (.t 0), []⟩, ⟨1, (some 76), none, .mov (.t 8), []⟩, ⟨2, (some 77), none, .call (.c (.func (.func 18) #[] #[])) [.t 75, .t 76], []⟩, ⟨3, (some 74), none, .mov (.t 77), []⟩, ⟨4, (some 78), none, .ext (.t 74) 0, []⟩, ⟨5, (some 79), none, .ext (.t 74) 1, []⟩, ⟨6, (some 11), none, .mov (.t 78), []⟩, ⟨7, (some 12), none, .mov (.t 79), []⟩]) (.seq (.ops [⟨0, (some 81), none, .mov (.t 0), []⟩, ⟨1, (some 82), none, .mov (.t 8), []⟩, ⟨2, (some 83), none, .call (.c (.func (.func 18) #[] #[])) [.t 81, .t 82], []⟩, ⟨3, (some 80), none, .mov (.t 83), []⟩, ⟨4, (some 84), none, .ext (.t 80) 0, []⟩, ⟨5, (some 85), none, .ext (.t 80) 1, []⟩, ⟨6, (some 13), none, .mov (.t 84), []⟩, ⟨7, (some 14), none, .mov (.t 85), []⟩]) (.seq (.ops [⟨0, (some 87), none, .mov (.t 0), []⟩, ⟨1, (some 88), none, .mov (.t 8), []⟩, ⟨2, (some 89), none, .call (.c (.func (.func 17) #[] #[])) [.t 87, .t 88], []⟩, ⟨3, (some 86), none, .mov (.t 89), []⟩, ⟨4, (some 90), none, .ext (.t 86) 0, []⟩, ⟨5, (some 91), none, .ext (.t 86) 1, []⟩, ⟨6, (some 15), none, .mov (.t 90), []⟩, ⟨7, (some 16), none, .mov (.t 91), []⟩]) (.seq (.ops [⟨0, (some 93), none, .mov (.t 0), []⟩, ⟨1, (some 94), none, .mov (.t 8), []⟩, ⟨2, (some 95), none, .call (.c (.func (.func 17) #[] #[])) [.t 93, .t 94], []⟩, ⟨3, (some 92), none, .mov (.t 95), []⟩, ⟨4, (some 96), none, .ext (.t 92) 0, []⟩, ⟨5, (some 97), none, .ext (.t 92) 1, []⟩, ⟨6, (some 17), none, .mov (.t 96), []⟩, ⟨7, (some 18), none, .mov (.t 97), []⟩]) (.seq (.ops [⟨0, (some 99), none, .mov (.t 0), []⟩, ⟨1, (some 100), none, .mov (.t 8), []⟩, ⟨2, (some 101), none, .mov (.t 9), []⟩, ⟨3, (some 102), none, .call (.c (.func (.func 21) #[] #[])) [.t 99, .t 100, .t 101], []⟩, ⟨4, (some 98), none, .mov (.t 102), []⟩, ⟨5, (some 103), none, .ext (.t 98) 0, []⟩, ⟨6, (some 104), none, .ext (.t 98) 1, []⟩, ⟨7, (some 19), none, .mov (.t 103), []⟩, ⟨8, (some 20), none, .mov (.t 104), []⟩]) (.seq (.ops [⟨0, (some 106), none, .mov (.t 0), []⟩, ⟨1, (some 107), none, .mov (.t 8), []⟩, ⟨2, (some 108), none, .mov (.t 9), []⟩, ⟨3, (some 109), none, .call (.c (.func (.func 21) #[] #[])) [.t 106, .t 107, .t 108], []⟩, ⟨4, (some 105), none, .mov (.t 109), []⟩, ⟨5, (some 110), none, .ext (.t 105) 0, []⟩, ⟨6, (some 111), none, .ext (.t 105) 1, []⟩, ⟨7, (some 21), none, .mov (.t 110), []⟩, ⟨8, (some 22), none, .mov (.t 111), []⟩]) (.seq (.ops [⟨0, (some 113), none, .mov (.t 0), []⟩, ⟨1, (some 114), none, .mov (.t 7), []⟩, ⟨2, (some 115), none, .mov (.t 8), []⟩, ⟨3, (some 116), none, .call (.c (.func (.func 22) #[] #[])) [.t 113, .t 114, .t 115], []⟩, ⟨4, (some 112), none, .mov (.t 116), []⟩, ⟨5, (some 117), none, .ext (.t 112) 0, []⟩, ⟨6, (some 118), none, .ext (.t 112) 1, []⟩, ⟨7, (some 23), none, .mov (.t 117), []⟩, ⟨8, (some 24), none, .mov (.t 118), []⟩]) (.seq (.ops [⟨0, (some 120), none, .mov (.t 0), []⟩, ⟨1, (some 121), none, .mov (.t 7), []⟩, ⟨2, (some 122), none, .mov (.t 8), []⟩, ⟨3, (some 123), none, .call (.c (.func (.func 22) #[] #[])) [.t 120, .t 121, .t 122], []⟩, ⟨4, (some 119), none, .mov (.t 123), []⟩, ⟨5, (some 124), none, .ext (.t 119) 0, []⟩, ⟨6, (some 125), none, .ext (.t 119) 1, []⟩, ⟨7, (some 25), none, .mov (.t 124), []⟩, ⟨8, (some 26), none, .mov (.t 125), []⟩]) (.seq (.seq (.ops [⟨0, (some 27), none, .mov (.c (.int .i64 0)), []⟩]) (.block 0 (.loop (.seq (.seq (.ops [⟨0, (some 126), none, .mov (.t 27), []⟩, ⟨1, (some 127), none, .mov (.t 7), []⟩, ⟨2, (some 128), none, .bin .lss (.t 126) (.t 127), []⟩]) (.ite (.t 128) .skip (.exit 0))) (.seq (.block 1 (.ops [⟨0, (some 131), none, .mov (.t 0), []⟩, ⟨1, (some 132), none, .mov (.t 27), []⟩, ⟨2, (some 133), none, .mov (.t 0), []⟩, ⟨3, (some 134), none, .mov (.t 27), []⟩, ⟨4, (some 135), none, .ixs 1 (.t 133) (.t 134), []⟩, ⟨5, (some 136), none, .ld (.t 135), []⟩, ⟨6, (some 137), none, .mov (.t 2), []⟩, ⟨7, (some 138), none, .bin .xor (.t 136) (.t 137), []⟩, ⟨8, (some 139), none, .ixs 1 (.t 131) (.t 132), []⟩, ⟨9, none, none, .st (.t 139) (.t 138), []⟩])) (.ops [⟨0, (some 129), none, .mov (.t 27), []⟩, ⟨1, (some 130), none, .bin .add (.t 129) (.c (.int .i64 1)), []⟩, ⟨2, (some 27), none, .mov (.t 130), []⟩])))))) (.seq (.ops [⟨0, (some 140), none, .bsl 31 0 [.int .u16 0] [], []⟩, ⟨1, (some 141), none, .mov (.t 0), []⟩, ⟨2, (some 142), none, .app 31 2 [.int .u16 0] (.t 140) (.t 141), []⟩, ⟨3, (some 28), none, .mov (.t 142), []⟩]) (.seq (.ops [⟨0, (some 144), none, .mov (.t 0), []⟩, ⟨1, (some 145), none, .mov (.t 8), []⟩, ⟨2, (some 146), none, .call (.c (.func (.func 18) #[] #[])) [.t 144, .t 145], []⟩, ⟨3, (some 143), none, .mov (.t 146), []⟩, ⟨4, (some 147), none, .ext (.t 143) 0, []⟩, ⟨5, (some 148), none, .ext (.t 143) 1, []⟩, ⟨6, (some 29), none, .mov (.t 147), []⟩, ⟨7, (some 30), none, .mov (.t 148), []⟩]) (.seq (.ops [⟨0, (some 150), none, .mov (.t 0), []⟩, ⟨1, (some 151), none, .mov (.t 8), []⟩, ⟨2, (some 152), none, .call (.c (.func (.func 17) #[] #[])) [.t 150, .t 151], []⟩, ⟨3, (some 149), none, .mov (.t 152), []⟩, ⟨4, (some 153), none, .ext (.t 149) 0, []⟩, ⟨5, (some 154), none, .ext (.t 149) 1, []⟩, ⟨6, (some 31), none, .mov (.t 153), []⟩, ⟨7, (some 32), none, .mov (.t 154), []⟩]) (.seq (.ops [⟨0, (some 156), none, .mov (.t 0), []⟩, ⟨1, (some 157), none, .mov (.t 8), []⟩, ⟨2, (some 158), none, .mov (.t 9), []⟩, ⟨3, (some 159), none, .call (.c (.func (.func 21) #[] #[])) [.t 156, .t 157, .t 158], []⟩, ⟨4, (some 155), none, .mov (.t 159), []⟩, ⟨5, (some 160), none, .ext (.t 155) 0, []⟩, ⟨6, (some 161), none, .ext (.t 155) 1, []⟩, ⟨7, (some 33), none, .mov (.t 160), []⟩, ⟨8, (some 34), none, .mov (.t 161), []⟩]) (.seq (.ops [⟨0, (some 163), none, .mov (.t 0), []⟩, ⟨1, (some 164), none, .mov (.t 7), []⟩, ⟨2, (some 165), none, .mov (.t 8), []⟩, ⟨3, (some 166), none, .call (.c (.func (.func 22) #[] #[])) [.t 163, .t 164, .t 165], []⟩, ⟨4, (some 162), none, .mov (.t 166), []⟩, ⟨5, (some 167), none, .ext (.t 162) 0, []⟩, ⟨6, (some 168), none, .ext (.t 162) 1, []⟩, ⟨7, (some 35), none, .mov (.t 167), []⟩, ⟨8, (some 36), none, .mov (.t 168), []⟩]) (.seq (.seq (.ops [⟨0, (some 169), none, .mov (.t 11), []⟩, ⟨1, (some 170), none, .mov (.t 13), []⟩, ⟨2, (some 171), none, .call (.c (.func (.func 19) #[] #[])) [.t 169, .t 170], []⟩, ⟨3, (some 172), none, .un .not (.t 171), []⟩, ⟨4, (some 173), none, .mov (.t 172), []⟩, ⟨5, (some 174), (some (173, false)), .mov (.t 15), []⟩, ⟨6, (some 175), (some (173, false)), .mov (.t 17), []⟩, ⟨7, (some 176), (some (173, false)), .call (.c (.func (.func 19) #[] #[])) [.t 174, .t 175], []⟩, ⟨8, (some 177), (some (173, false)), .un .not (.t 176), []⟩, ⟨9, (some 178), none, .pick (.t 173) (.c (.bool true)) (.t 177), []⟩, ⟨10, (some 179), none, .mov (.t 178), []⟩, ⟨11, (some 180), (some (179, false)), .mov (.t 19), []⟩, ⟨12, (some 181), (some (179, false)), .mov (.t 21), []⟩, ⟨13, (some 182), (some (179, false)), .call (.c (.func (.func 19) #[] #[])) [.t 180, .t 181], []⟩, ⟨14, (some 183), (some (179, false)), .un .not (.t 182), []⟩, ⟨15, (some 184), none, .pick (.t 179) (.c (.bool true)) (.t 183), []⟩, ⟨16, (some 185), none, .mov (.t 184), []⟩, ⟨17, (some 186), (some (185, false)), .mov (.t 23), []⟩, ⟨18, (some 187), (some (185, false)), .mov (.t 25), []⟩, ⟨19, (some 188), (some (185, false)), .call (.c (.func (.func 19) #[] #[])) [.t 186, .t 187], []⟩, ⟨20, (some 189), (some (185, false)), .un .not (.t 188), []⟩, ⟨21, (some 190), none, .pick (.t 185) (.c (.bool true)) (.t 189), []⟩, ⟨22, (some 191), none, .mov (.t 190), []⟩, ⟨23, (some 192), (some (191, false)), .mov (.t 23), []⟩, ⟨24, (some 193), (some (191, false)), .mov (.t 15), []⟩, ⟨25, (some 194), (some (191, false)), .call (.c (.func (.func 19) #[] #[])) [.t 192, .t 193], []⟩, ⟨26, (some 195), (some (191, false)), .un .not (.t 194), []⟩, ⟨27, (some 196), none, .pick (.t 191) (.c (.bool true)) (.t 195), []⟩, ⟨28, (some 197), none, .mov (.t 196), []⟩, ⟨29, (some 198), (some (197, false)), .mov (.t 35), []⟩, ⟨30, (some 199), (some (197, false)), .mov (.t 31), []⟩, ⟨31, (some 200), (some (197, false)), .call (.c (.func (.func 19) #[] #[])) [.t 198, .t 199], []⟩, ⟨32, (some 201), (some (197, false)), .un .not (.t 200), []⟩, ⟨33, (some 202), none, .pick (.t 197) (.c (.bool true)) (.t 201), []⟩]) (.ite (.t 202) (.seq (.ops [⟨0, (some 6), none, .mov (.c (.bool false)), []⟩]) .ret) .skip)) (.seq (.ops [⟨0, (some 204), none, .bsl 31 0 [.int .u16 0] [], []⟩, ⟨1, (some 205), none, .mov (.t 11), []⟩, ⟨2, (some 206), none, .app 31 2 [.int .u16 0] (.t 204) (.t 205), []⟩, ⟨3, (some 207), none, .mov (.t 8), []⟩, ⟨4, (some 208), none, .call (.c (.func (.func 17) #[] #[])) [.t 206, .t 207], []⟩, ⟨5, (some 203), none, .mov (.t 208), []⟩, ⟨6, (some 209), none, .ext (.t 203) 0, []⟩, ⟨7, (some 210), none, .ext (.t 203) 1, []⟩, ⟨8, (some 37), none, .mov (.t 209), []⟩, ⟨9, (some 38), none, .mov (.t 210), []⟩]) (.seq (.ops [⟨0, (some 212), none, .bsl 31 0 [.int .u16 0] [], []⟩, ⟨1, (some 213), none, .mov (.t 29), []⟩, ⟨2, (some 214), none, .app 31 2 [.int .u16 0] (.t 212) (.t 213), []⟩, ⟨3, (some 215), none, .mov (.t 8), []⟩, ⟨4, (some 216), none, .call (.c (.func (.func 17) #[] #[])) [.t 214, .t 215], []⟩, ⟨5, (some 211), none, .mov (.t 216), []⟩, ⟨6, (some 217), none, .ext (.t 211) 0, []⟩, ⟨7, (some 218), none, .ext (.t 211) 1, []⟩, ⟨8, (some 39), none, .mov (.t 217), []⟩, ⟨9, (some 40), none, .mov (.t 218), []⟩]) (.seq (.ops [⟨0, (some 220), none, .bsl 31 0 [.int .u16 0] [], []⟩, ⟨1, (some 221), none, .mov (.t 15), []⟩, ⟨2, (some 222), none, .app 31 2 [.int .u16 0] (.t 220) (.t 221), []⟩, ⟨3, (some 223), none, .mov (.t 8), []⟩, ⟨4, (some 224), none, .call (.c (.func (.func 18) #[] #[])) [.t 222, .t 223], []⟩, ⟨5, (some 219), none, .mov (.t 224), []⟩, ⟨6, (some 225), none, .ext (.t 219) 0, []⟩, ⟨7, (some 226), none, .ext (.t 219) 1, []⟩, ⟨8, (some 41), none, .mov (.t 225), []⟩, ⟨9, (some 42), none, .mov (.t 226), []⟩]) (.seq (.ops [⟨0, (some 228), none, .bsl 31 0 [.int .u16 0] [], []⟩, ⟨1, (some 229), none, .mov (.t 31), []⟩, ⟨2, (some 230), none, .app 31 2 [.int .u16 0] (.t 228) (.t 229), []⟩, ⟨3, (some 231), none, .mov (.t 8), []⟩, ⟨4, (some 232), none, .call (.c (.func (.func 18) #[] #[])) [.t 230, .t 231], []⟩, ⟨5, (some 227), none, .mov (.t 232), []⟩, ⟨6, (some 233), none, .ext (.t 227) 0, []⟩, ⟨7, (some 234), none, .ext (.t 227) 1, []⟩, ⟨8, (some 43), none, .mov (.t 233), []⟩, ⟨9, (some 44), none, .mov (.t 234), []⟩]) (.seq (.ops [⟨0, (some 236), none, .bsl 31 0 [.int .u16 0] [], []⟩, ⟨1, (some 237), none, .mov (.t 19), []⟩, ⟨2, (some 238), none, .app 31 2 [.int .u16 0] (.t 236) (.t 237), []⟩, ⟨3, (some 239), none, .mov (.t 9), []⟩, ⟨4, (some 240), none, .mov (.t 8), []⟩, ⟨5, (some 241), none, .call (.c (.func (.func 21) #[] #[])) [.t 238, .t 239, .t 240], []⟩, ⟨6, (some 235), none, .mov (.t 241), []⟩, ⟨7, (some 242), none, .ext (.t 235) 0, []⟩, ⟨8, (some 243), none, .ext (.t 235) 1, []⟩, ⟨9, (some 45), none, .mov (.t 242), []⟩, ⟨10, (some 46), none, .mov (.t 243), []⟩]) (.seq (.ops [⟨0, (some 245), none, .bsl 31 0 [.int .u16 0] [], []⟩, ⟨1, (some 246), none, .mov (.t 33), []⟩, ⟨2, (some 247), none, .app 31 2 [.int .u16 0] (.t 245) (.t 246), []⟩, ⟨3, (some 248), none, .mov (.t 9), []⟩, ⟨4, (some 249), none, .mov (.t 8), []⟩, ⟨5, (some 250), none, .call (.c (.func (.func 21) #[] #[])) [.t 247, .t 248, .t 249], []⟩, ⟨6, (some 244), none, .mov (.t 250), []⟩, ⟨7, (some 251), none, .ext (.t 244) 0, []⟩, ⟨8, (some 252), none, .ext (.t 244) 1, []⟩, ⟨9, (some 47), none, .mov (.t 251), []⟩, ⟨10, (some 48), none, .mov (.t 252), []⟩]) (.seq (.seq (.ops [⟨0, (some 253), none, .mov (.t 37), []⟩, ⟨1, (some 254), none, .mov (.t 10), []⟩, ⟨2, (some 255), none, .call (.c (.func (.func 19) #[] #[])) [.t 253, .t 254], []⟩, ⟨3, (some 256), none, .un .not (.t 255), []⟩, ⟨4, (some 257), none, .mov (.t 256), []⟩, ⟨5, (some 258), (some (257, false)), .mov (.t 39), []⟩, ⟨6, (some 259), (some (257, false)), .mov (.t 28), []⟩, ⟨7, (some 260), (some (257, false)), .call (.c (.func (.func 19) #[] #[])) [.t 258, .t 259], []⟩, ⟨8, (some 261), (some (257, false)), .un .not (.t 260), []⟩, ⟨9, (some 262), none, .pick (.t 257) (.c (.bool true)) (.t 261), []⟩, ⟨10, (some 263), none, .mov (.t 262), []⟩, ⟨11, (some 264), (some (263, false)), .mov (.t 41), []⟩, ⟨12, (some 265), (some (263, false)), .mov (.t 10), []⟩, ⟨13, (some 266), (some (263, false)), .call (.c (.func (.func 19) #[] #[])) [.t 264, .t 265], []⟩, ⟨14, (some 267), (some (263, false)), .un .not (.t 266), []⟩, ⟨15, (some 268), none, .pick (.t 263) (.c (.bool true)) (.t 267), []⟩, ⟨16, (some 269), none, .mov (.t 268), []⟩, ⟨17, (some 270), (some (269, false)), .mov (.t 43), []⟩, ⟨18, (some 271), (some (269, false)), .mov (.t 28), []⟩, ⟨19, (some 272), (some (269, false)), .call (.c (.func (.func 19) #[] #[])) [.t 270, .t 271], []⟩, ⟨20, (some 273), (some (269, false)), .un .not (.t 272), []⟩, ⟨21, (some 274), none, .pick (.t 269) (.c (.bool true)) (.t 273), []⟩, ⟨22, (some 275), none, .mov (.t 274), []⟩, ⟨23, (some 276), (some (275, false)), .mov (.t 45), []⟩, ⟨24, (some 277), (some (275, false)), .mov (.t 10), []⟩, ⟨25, (some 278), (some (275, false)), .call (.c (.func (.func 19) #[] #[])) [.t 276, .t 277], []⟩, ⟨26, (some 279), (some (275, false)), .un .not (.t 278), []⟩, ⟨27, (some 280), none, .pick (.t 275) (.c (.bool true)) (.t 279), []⟩, ⟨28, (some 281), none, .mov (.t 280), []⟩, ⟨29, (some 282), (some (281, false)), .mov (.t 47), []⟩, ⟨30, (some 283), (some (281, false)), .mov (.t 28), []⟩, ⟨31, (some 284), (some (281, false)), .call (.c (.func (.func 19) #[] #[])) [.t 282, .t 283], []⟩, ⟨32, (some 285), (some (281, false)), .un .not (.t 284), []⟩, ⟨33, (some 286), none, .pick (.t 281) (.c (.bool true)) (.t 285), []⟩]) (.ite (.t 286) (.seq (.ops [⟨0, (some 6), none, .mov (.c (.bool false)), []⟩]) .ret) .skip)) (.seq (.seq (.ops [⟨0, (some 287), none, .mov (.t 11), []⟩, ⟨1, (some 288), none, .mov (.t 13), []⟩, ⟨2, (some 289), none, .mov (.t 15), []⟩, ⟨3, (some 290), none, .mov (.t 17), []⟩, ⟨4, (some 291), none, .mov (.t 19), []⟩, ⟨5, (some 292), none, .mov (.t 21), []⟩, ⟨6, (some 293), none, .mov (.t 23), []⟩, ⟨7, (some 294), none, .mov (.t 25), []⟩, ⟨8, (some 295), none, .mov (.t 29), []⟩, ⟨9, (some 296), none, .mov (.t 31), []⟩, ⟨10, (some 297), none, .mov (.t 33), []⟩, ⟨11, (some 298), none, .mov (.t 35), []⟩, ⟨12, (some 299), none, .mov (.t 37), []⟩, ⟨13, (some 300), none, .mov (.t 39), []⟩, ⟨14, (some 301), none, .mov (.t 41), []⟩, ⟨15, (some 302), none, .mov (.t 43), []⟩, ⟨16, (some 303), none, .mov (.t 45), []⟩, ⟨17, (some 304), none, .mov (.t 47), []⟩, ⟨18, (some 305), none, .bsl 23 18 [.slice none 0 0] [(0, (1, .t 287)), (1, (1, .t 288)), (2, (1, .t 289)), (3, (1, .t 290)), (4, (1, .t 291)), (5, (1, .t 292)), (6, (1, .t 293)), (7, (1, .t 294)), (8, (1, .t 295)), (9, (1, .t 296)), (10, (1, .t 297)), (11, (1, .t 298)), (12, (1, .t 299)), (13, (1, .t 300)), (14, (1, .t 301)), (15, (1, .t 302)), (16, (1, .t 303)), (17, (1, .t 304))], []⟩, ⟨19, (some 306), none, .call (.c (.func (.func 23) #[] #[])) [.t 305], []⟩, ⟨20, (some 307), none, .un .not (.t 306), []⟩]) (.ite (.t 307) (.seq (.ops [⟨0, (some 6), none, .mov (.c (.bool false)), []⟩]) .ret) .skip)) (.seq (.ops [⟨0, (some 309), none, .mov (.t 0), []⟩, ⟨1, (some 310), none, .mov (.t 8), []⟩, ⟨2, (some 311), none, .call (.c (.func (.func 18) #[] #[])) [.t 309, .t 310], []⟩, ⟨3, (some 308), none, .mov (.t 311), []⟩, ⟨4, (some 312), none, .ext (.t 308) 0, []⟩, ⟨5, (some 313), none, .ext (.t 308) 1, []⟩, ⟨6, (some 49), none, .mov (.t 312), []⟩, ⟨7, (some 50), none, .mov (.t 313), []⟩]) (.seq (.ops [⟨0, (some 315), none, .mov (.t 49), []⟩, ⟨1, (some 316), none, .mov (.t 8), []⟩, ⟨2, (some 317), none, .call (.c (.func (.func 17) #[] #[])) [.t 315, .t 316], []⟩, ⟨3, (some 314), none, .mov (.t 317), []⟩, ⟨4, (some 318), none, .ext (.t 314) 0, []⟩, ⟨5, (some 319), none, .ext (.t 314) 1, []⟩, ⟨6, (some 51), none, .mov (.t 318), []⟩, ⟨7, (some 52), none, .mov (.t 319), []⟩]) (.seq (.ops [⟨0, (some 320), none, .mov (.t 0), []⟩, ⟨1, (some 321), none, .mov (.t 28), []⟩, ⟨2, (some 322), none, .call (.c (.func (.func 19) #[] #[])) [.t 320, .t 321], []⟩, ⟨3, (some 323), none, .mov (.t 322), []⟩, ⟨4, (some 324), (some (323, true)), .mov (.t 51), []⟩, ⟨5, (some 325), (some (323, true)), .mov (.t 28), []⟩, ⟨6, (some 326), (some (323, true)), .call (.c (.func (.func 19) #[] #[])) [.t 324, .t 325], []⟩, ⟨7, (some 327), none, .pick (.t 323) (.t 326) (.c (.bool false)), []⟩, ⟨8, (some 6), none, .mov (.t 327), []⟩]) .ret)))))))))))))))))))))))))))))))))
attribute [irreducible] c_culletlaw14_AfftLists
theorem run_culletlaw14_AfftLists {args : List Value} {w : World} {K : Value → World → Prop} (hn : args.length ≤ 328) (h : WP Try.prog c_culletlaw14_AfftLists (endQ [.t 6] K) (initT args) w) : CallV Try.prog 7 args w K :=
  call_of follows Try.func7 (by kernel_rfl) (by kernel_rfl) hn h
end Go.Proofs.Ytpmfeaajpjjfiaa.Fw
namespace Go.Proofs.Ytpmfeaajpjjfiaa.Fw
open Go Go.Fw
theorem fold_any {w : World} {s : Value} {l : List (El 16)} {a k : Nat} (h : Sl w s l) (hl : l.length = 2 ^ k) (hk : k ≤ 16) (hc : isC (a : Int) (2 ^ k) (2 ^ k) = true) :
    CallV Try.prog 22 [s, .int .i64 ((2 ^ k : Nat) : Int), .int .i64 (a : Int)] w fun v w' => ∃ sv m, v = .tuple #[sv, .int .i64 0] ∧ Ow w.heap.size w' sv m ∧ m.length = 2 ^ k ∧ (∀ i, i < 2 ^ k → (co m).c i = itI a k (co l).c i) ∧ RowKit.Below w.heap.size w w' := by
  have hp := pow_le16 hk
  have h0 := Nat.two_pow_pos k
  have hP : isP ((2 ^ k : Nat) : Int) = true := (isP_iff _).2 ⟨k, hk, rfl⟩
  refine (afft_Fold_spec w s l _ a h (by omega)).mono ?_
  simp only [Int.toNat_natCast]
  rintro _ w' ⟨hB, ⟨k', q, hk', hn, hlk', hq0, -, sv, m, rfl, om, lm, hm⟩ | ⟨hbad, -⟩ | ⟨-, hbad, -⟩ | ⟨-, -, hbad, -⟩⟩
  · obtain rfl : k' = k := pow2_inj (by omega)
    obtain rfl : q = 1 := Nat.eq_of_mul_eq_mul_right h0 (by omega)
    refine ⟨sv, m, rfl, om, lm, fun i hi => ?_, hB⟩
    rw [hm i hi]
    show 0 + itI (a + 0 * 2 ^ k') k' (fun j => (co l).c (0 * 2 ^ k' + j)) i = _
    rw [El.zero_add, Nat.zero_mul, Nat.add_zero]
    exact itI_loc (n := 2 ^ k') (Nat.mod_self _) (fun j hj => by rw [Nat.zero_add]) i hi
  · rw [hP] at hbad; cases hbad
  · rw [hl, Nat.mod_self] at hbad
    rcases hbad with h | h
    · omega
    · exact absurd rfl h
  · rw [hl, hc] at hbad; cases hbad
theorem fill18 (h0 h1 h2 h3 h4 h5 h6 h7 h8 h9 h10 h11 h12 h13 h14 h15 h16 h17 : Hd) : fillL (repL [.slice none 0 0] 18) [(0, 1, Cell.v h0), (1, 1, Cell.v h1), (2, 1, Cell.v h2), (3, 1, Cell.v h3), (4, 1, Cell.v h4), (5, 1, Cell.v h5), (6, 1, Cell.v h6), (7, 1, Cell.v h7), (8, 1, Cell.v h8), (9, 1, Cell.v h9), (10, 1, Cell.v h10), (11, 1, Cell.v h11), (12, 1, Cell.v h12), (13, 1, Cell.v h13), (14, 1, Cell.v h14), (15, 1, Cell.v h15), (16, 1, Cell.v h16), (17, 1, Cell.v h17)] = some [Cell.v h0, Cell.v h1, Cell.v h2, Cell.v h3, Cell.v h4, Cell.v h5, Cell.v h6, Cell.v h7, Cell.v h8, Cell.v h9, Cell.v h10, Cell.v h11, Cell.v h12, Cell.v h13, Cell.v h14, Cell.v h15, Cell.v h16, Cell.v h17] := by kernel_rfl
set_option maxHeartbeats 40000000 in
theorem culletlaw14_AfftLists_spec (w : World) (s : Value) (l : List (El 16)) (a : Int) (x : El 16) (h : Sl w s l) (hb : l.length ≤ 70368744175616) (ha : -9223372036854775808 ≤ a ∧ a ≤ 9223372036854775807) :
    CallV Try.prog 7 [s, .int .i64 a, .int .u16 (x.v.toNat : Int)] w fun v w' => v = .bool true ∧ RowKit.Below w.heap.size w w' := by
  refine run_culletlaw14_AfftLists (by simp) ?_
  simp only [c_culletlaw14_AfftLists, WS, List.getElem_cons_zero, List.getElem_cons_succ, Option.isNone_some, Option.isNone_none, List.getD_cons_zero, List.getD_cons_succ, I.at, atL, atO, atP, evp, evs, retV, ↓reduceIte, Nat.reduceEqDiff, reduceCtorEq]
  refine X_call0 ((culletlaw14_awake_spec w).mono ?_)
  rintro _ w1 ⟨rfl, hB⟩
  have B := hB
  clear hB
  simp (maxSteps := 1000000) (disch := omega) only [WS, List.getElem_cons_zero, List.getElem_cons_succ, Option.isNone_some, Option.isNone_none, List.getD_cons_zero, List.getD_cons_succ, I.at, atL, atO, atP, evp, evs, retV, ↓reduceIte, Nat.reduceEqDiff, reduceCtorEq, AS]
  refine X_bsl (zs := ([] : List (El 16))) (by rfl) (by rfl) fun e0 w2 oe hB => ?_
  have oe := oe.mono B.size
  have B := B.trans (hB.mono B.size)
  clear hB
  simp (maxSteps := 1000000) (disch := omega) only [WS, List.getElem_cons_zero, List.getElem_cons_succ, Option.isNone_some, Option.isNone_none, List.getD_cons_zero, List.getD_cons_succ, I.at, atL, atO, atP, evp, evs, retV, ↓reduceIte, Nat.reduceEqDiff, reduceCtorEq, AS]
  refine X_call0 ((cut_any (m := 64) (h.up B) (by omega) (by omega)).mono ?_)
  rintro s1 w' ⟨rfl, n, hs, hn1, hn4, hnk⟩
  have hL : (l.take n).length = n := by rw [List.length_take]; omega
  generalize l.take n = V at hs hL
  simp (maxSteps := 1000000) (disch := omega) only [WS, List.getElem_cons_zero, List.getElem_cons_succ, Option.isNone_some, Option.isNone_none, List.getD_cons_zero, List.getD_cons_succ, I.at, atL, atO, atP, evp, evs, retV, ↓reduceIte, Nat.reduceEqDiff, reduceCtorEq, AS]
  refine Ow.Xapp2 oe hs B.size (by simp only [List.length_nil, maxBytes]; omega) (by simp only [List.length_nil]; omega) fun sv w3 ov hg => ?_
  rw [List.nil_append] at ov
  have B := hg.below B B.size fun b hb => (oe.blk b hb).1
  clear hg oe hs
  by_cases hn0 : n = 0
  · simp (maxSteps := 1000000) (disch := omega) only [WS, List.getElem_cons_zero, List.getElem_cons_succ, Option.isNone_some, Option.isNone_none, List.getD_cons_zero, List.getD_cons_succ, I.at, atL, atO, atP, evp, evs, retV, ↓reduceIte, Nat.reduceEqDiff, reduceCtorEq, AS, ov.sl.Xlen, hL]
    exact B
  obtain ⟨k, hk, rfl⟩ : ∃ k, k ≤ 16 ∧ n = 2 ^ k := by rcases hnk with h | h; exact absurd h.1 hn0; exact h
  have hp := Nat.two_pow_pos k
  clear hnk
  simp (maxSteps := 1000000) (disch := omega) only [WS, List.getElem_cons_zero, List.getElem_cons_succ, Option.isNone_some, Option.isNone_none, List.getD_cons_zero, List.getD_cons_succ, I.at, atL, atO, atP, evp, evs, retV, ↓reduceIte, Nat.reduceEqDiff, reduceCtorEq, AS, ov.sl.Xlen, hL]
  refine X_call0 ((culletlaw14_begin_spec _ a k hk ha).mono ?_)
  rintro _ w4 ⟨rfl, p, rfl, hp1, hp2⟩
  have hP := isC_of hp1 hp2
  have ha1 : -9223372036854775808 ≤ IntKind.i64.wrap (a + 1) ∧ IntKind.i64.wrap (a + 1) ≤ 9223372036854775807 := wrap_rng _
  generalize hA1 : IntKind.i64.wrap (a + 1) = a1 at ha1
  simp (maxSteps := 1000000) (disch := omega) only [WS, List.getElem_cons_zero, List.getElem_cons_succ, Option.isNone_some, Option.isNone_none, List.getD_cons_zero, List.getD_cons_succ, I.at, atL, atO, atP, evp, evs, retV, ↓reduceIte, Nat.reduceEqDiff, reduceCtorEq, AS, hA1]
  refine X_call0 ((culletlaw14_begin_spec _ a1 k hk ha1).mono ?_)
  rintro _ w5 ⟨rfl, q, rfl, hq1, hq2⟩
  have hQ := isC_of hq1 hq2
  obtain ⟨vb, hvb, hvlt⟩ := ov.sl.blk_lt (by rintro rfl; simp at hL; omega)
  simp (maxSteps := 1000000) (disch := omega) only [WS, List.getElem_cons_zero, List.getElem_cons_succ, Option.isNone_some, Option.isNone_none, List.getD_cons_zero, List.getD_cons_succ, I.at, atL, atO, atP, evp, evs, retV, ↓reduceIte, Nat.reduceEqDiff, reduceCtorEq, AS]
  refine X_bsl (zs := ([] : List (El 16))) (by rfl) (by rfl) fun e0 w6 oe hB => ?_
  have L0 := hvlt
  generalize hS : w5.heap.size = S at L0
  have oe : Ow S w6 e0 [] := hS ▸ oe
  have hS6 := hB.size
  rw [hS] at hS6
  have hSB : w.heap.size ≤ S := hS ▸ B.size
  have ov := ov.up hB
  have B := B.trans (hB.mono B.size)
  clear hB
  simp (maxSteps := 1000000) (disch := omega) only [WS, List.getElem_cons_zero, List.getElem_cons_succ, Option.isNone_some, Option.isNone_none, List.getD_cons_zero, List.getD_cons_succ, I.at, atL, atO, atP, evp, evs, retV, ↓reduceIte, Nat.reduceEqDiff, reduceCtorEq, AS]
  refine Ow.Xapp2 oe ov.sl hS6 (by simp only [List.length_nil, maxBytes]; omega) (by simp only [List.length_nil]; omega) fun so w7 oo hg => ?_
  rw [List.nil_append] at oo
  have nvo : Fw.blk sv ≠ Fw.blk e0 := by rw [hvb]; intro e; have := (oe.blk vb e.symm).1; omega
  have ov : Ow w.heap.size w7 sv V := by
    rcases hg with ⟨-, hg⟩ | ⟨-, hg⟩
    · exact ov.grown hg nvo
    · exact ov.up hg
  have hS7 : S ≤ w7.heap.size := Nat.le_trans hS6 hg.size
  have B := hg.below B B.size fun b hb => Nat.le_trans hSB (oe.blk b hb).1
  clear hg oe nvo
  have Lo : Lst (α := El 16) S [] w7 := Lst.nil _ _
  have hSz := hS7
  have hmill : 2 ^ k ≤ 1000000 := by omega
  have hbig : 2 ^ k ≤ 140737488355328 := by omega
  have hbig2 : 2 * (0 + 2 ^ k) * 2 + 1024 * 2 ≤ maxBytes := by simp only [maxBytes]; omega
  have hbig3 : 0 + 2 ^ k < 4611686018427387904 := by omega
  simp (maxSteps := 1000000) (disch := omega) only [WS, List.getElem_cons_zero, List.getElem_cons_succ, Option.isNone_some, Option.isNone_none, List.getD_cons_zero, List.getD_cons_succ, I.at, atL, atO, atP, evp, evs, retV, ↓reduceIte, Nat.reduceEqDiff, reduceCtorEq, AS]
  refine X_call0 ((fwd_any ov.sl hL hk hP).mono ?_)
  rintro _ wn ⟨s_f1, f1, rfl, o_f1, l_f1, h_f1, hB⟩
  have Lo := Lo.push hB hSz o_f1
  have hSz := Nat.le_trans hSz hB.size
  clear o_f1
  have ov := ov.up hB
  have oo := oo.up hB
  have B := B.trans (hB.mono B.size)
  clear hB
  simp (maxSteps := 1000000) (disch := omega) only [WS, List.getElem_cons_zero, List.getElem_cons_succ, Option.isNone_some, Option.isNone_none, List.getD_cons_zero, List.getD_cons_succ, I.at, atL, atO, atP, evp, evs, retV, ↓reduceIte, Nat.reduceEqDiff, reduceCtorEq, AS]
  refine X_call0 ((fwd_any ov.sl hL hk hP).mono ?_)
  rintro _ wn ⟨s_f2, f2, rfl, o_f2, l_f2, h_f2, hB⟩
  have Lo := Lo.push hB hSz o_f2
  have hSz := Nat.le_trans hSz hB.size
  clear o_f2
  have ov := ov.up hB
  have oo := oo.up hB
  have B := B.trans (hB.mono B.size)
  clear hB
  simp (maxSteps := 1000000) (disch := omega) only [WS, List.getElem_cons_zero, List.getElem_cons_succ, Option.isNone_some, Option.isNone_none, List.getD_cons_zero, List.getD_cons_succ, I.at, atL, atO, atP, evp, evs, retV, ↓reduceIte, Nat.reduceEqDiff, reduceCtorEq, AS]
  refine X_call0 ((inv_any ov.sl hL hk hP).mono ?_)
  rintro _ wn ⟨s_i1, i1, rfl, o_i1, l_i1, h_i1, hB⟩
  have Lo := Lo.push hB hSz o_i1
  have hSz := Nat.le_trans hSz hB.size
  clear o_i1
  have ov := ov.up hB
  have oo := oo.up hB
  have B := B.trans (hB.mono B.size)
  clear hB
  simp (maxSteps := 1000000) (disch := omega) only [WS, List.getElem_cons_zero, List.getElem_cons_succ, Option.isNone_some, Option.isNone_none, List.getD_cons_zero, List.getD_cons_succ, I.at, atL, atO, atP, evp, evs, retV, ↓reduceIte, Nat.reduceEqDiff, reduceCtorEq, AS]
  refine X_call0 ((inv_any ov.sl hL hk hP).mono ?_)
  rintro _ wn ⟨s_i2, i2, rfl, o_i2, l_i2, h_i2, hB⟩
  have Lo := Lo.push hB hSz o_i2
  have hSz := Nat.le_trans hSz hB.size
  clear o_i2
  have ov := ov.up hB
  have oo := oo.up hB
  have B := B.trans (hB.mono B.size)
  clear hB
  simp (maxSteps := 1000000) (disch := omega) only [WS, List.getElem_cons_zero, List.getElem_cons_succ, Option.isNone_some, Option.isNone_none, List.getD_cons_zero, List.getD_cons_succ, I.at, atL, atO, atP, evp, evs, retV, ↓reduceIte, Nat.reduceEqDiff, reduceCtorEq, AS]
  refine X_call0 ((ext_any ov.sl hL hk hP hQ).mono ?_)
  rintro _ wn ⟨s_e1, e1, rfl, o_e1, l_e1, h_e1, hB⟩
  have Lo := Lo.push hB hSz o_e1
  have hSz := Nat.le_trans hSz hB.size
  clear o_e1
  have ov := ov.up hB
  have oo := oo.up hB
  have B := B.trans (hB.mono B.size)
  clear hB
  simp (maxSteps := 1000000) (disch := omega) only [WS, List.getElem_cons_zero, List.getElem_cons_succ, Option.isNone_some, Option.isNone_none, List.getD_cons_zero, List.getD_cons_succ, I.at, atL, atO, atP, evp, evs, retV, ↓reduceIte, Nat.reduceEqDiff, reduceCtorEq, AS]
  refine X_call0 ((ext_any ov.sl hL hk hP hQ).mono ?_)
  rintro _ wn ⟨s_e2, e2, rfl, o_e2, l_e2, h_e2, hB⟩
  have Lo := Lo.push hB hSz o_e2
  have hSz := Nat.le_trans hSz hB.size
  clear o_e2
  have ov := ov.up hB
  have oo := oo.up hB
  have B := B.trans (hB.mono B.size)
  clear hB
  simp (maxSteps := 1000000) (disch := omega) only [WS, List.getElem_cons_zero, List.getElem_cons_succ, Option.isNone_some, Option.isNone_none, List.getD_cons_zero, List.getD_cons_succ, I.at, atL, atO, atP, evp, evs, retV, ↓reduceIte, Nat.reduceEqDiff, reduceCtorEq, AS]
  refine X_call0 ((fold_any ov.sl hL hk hP).mono ?_)
  rintro _ wn ⟨s_o1, o1, rfl, o_o1, l_o1, h_o1, hB⟩
  have Lo := Lo.push hB hSz o_o1
  have hSz := Nat.le_trans hSz hB.size
  clear o_o1
  have ov := ov.up hB
  have oo := oo.up hB
  have B := B.trans (hB.mono B.size)
  clear hB
  simp (maxSteps := 1000000) (disch := omega) only [WS, List.getElem_cons_zero, List.getElem_cons_succ, Option.isNone_some, Option.isNone_none, List.getD_cons_zero, List.getD_cons_succ, I.at, atL, atO, atP, evp, evs, retV, ↓reduceIte, Nat.reduceEqDiff, reduceCtorEq, AS]
  refine X_call0 ((fold_any ov.sl hL hk hP).mono ?_)
  rintro _ wn ⟨s_o2, o2, rfl, o_o2, l_o2, h_o2, hB⟩
  have Lo := Lo.push hB hSz o_o2
  have hSz := Nat.le_trans hSz hB.size
  clear o_o2
  have ov := ov.up hB
  have oo := oo.up hB
  have B := B.trans (hB.mono B.size)
  clear hB
  simp (maxSteps := 1000000) (disch := omega) only [WS, List.getElem_cons_zero, List.getElem_cons_succ, Option.isNone_some, Option.isNone_none, List.getD_cons_zero, List.getD_cons_succ, I.at, atL, atO, atP, evp, evs, retV, ↓reduceIte, Nat.reduceEqDiff, reduceCtorEq, AS]
  refine loop_of (fun t w' => t 0 = sv ∧ t 2 = .int .u16 (x.v.toNat : Int) ∧ t 7 = .int .i64 ((2 ^ k : Nat) : Int) ∧ t 8 = .int .i64 (p : Int) ∧ t 9 = .int .i64 (q : Int) ∧ t 10 = so ∧ t 11 = s_f1 ∧ t 13 = s_f2 ∧ t 15 = s_i1 ∧ t 17 = s_i2 ∧ t 19 = s_e1 ∧ t 21 = s_e2 ∧ t 23 = s_o1 ∧ t 25 = s_o2 ∧ RowKit.Below w.heap.size w w' ∧ Lst (α := El 16) S [(s_f1, f1), (s_f2, f2), (s_i1, i1), (s_i2, i2), (s_e1, e1), (s_e2, e2), (s_o1, o1), (s_o2, o2)] w' ∧ S ≤ w'.heap.size ∧ Ow S w' so V ∧ ∃ (i : Nat) (V2 : List (El 16)), t 27 = .int .i64 (i : Int) ∧ i ≤ 2 ^ k ∧ Ow w.heap.size w' sv V2 ∧ V2.length = 2 ^ k)
    (fun t _ => 2 ^ k - (toI (t 27)).toNat) ⟨by simp only [WS, List.getElem_cons_zero, List.getElem_cons_succ, Option.isNone_some, Option.isNone_none, List.getD_cons_zero, List.getD_cons_succ, I.at, atL, atO, atP, evp, evs, retV, ↓reduceIte, Nat.reduceEqDiff, reduceCtorEq], by simp only [WS, List.getElem_cons_zero, List.getElem_cons_succ, Option.isNone_some, Option.isNone_none, List.getD_cons_zero, List.getD_cons_succ, I.at, atL, atO, atP, evp, evs, retV, ↓reduceIte, Nat.reduceEqDiff, reduceCtorEq], by simp only [WS, List.getElem_cons_zero, List.getElem_cons_succ, Option.isNone_some, Option.isNone_none, List.getD_cons_zero, List.getD_cons_succ, I.at, atL, atO, atP, evp, evs, retV, ↓reduceIte, Nat.reduceEqDiff, reduceCtorEq], by simp only [WS, List.getElem_cons_zero, List.getElem_cons_succ, Option.isNone_some, Option.isNone_none, List.getD_cons_zero, List.getD_cons_succ, I.at, atL, atO, atP, evp, evs, retV, ↓reduceIte, Nat.reduceEqDiff, reduceCtorEq], by simp only [WS, List.getElem_cons_zero, List.getElem_cons_succ, Option.isNone_some, Option.isNone_none, List.getD_cons_zero, List.getD_cons_succ, I.at, atL, atO, atP, evp, evs, retV, ↓reduceIte, Nat.reduceEqDiff, reduceCtorEq], by simp only [WS, List.getElem_cons_zero, List.getElem_cons_succ, Option.isNone_some, Option.isNone_none, List.getD_cons_zero, List.getD_cons_succ, I.at, atL, atO, atP, evp, evs, retV, ↓reduceIte, Nat.reduceEqDiff, reduceCtorEq], by simp only [WS, List.getElem_cons_zero, List.getElem_cons_succ, Option.isNone_some, Option.isNone_none, List.getD_cons_zero, List.getD_cons_succ, I.at, atL, atO, atP, evp, evs, retV, ↓reduceIte, Nat.reduceEqDiff, reduceCtorEq], by simp only [WS, List.getElem_cons_zero, List.getElem_cons_succ, Option.isNone_some, Option.isNone_none, List.getD_cons_zero, List.getD_cons_succ, I.at, atL, atO, atP, evp, evs, retV, ↓reduceIte, Nat.reduceEqDiff, reduceCtorEq], by simp only [WS, List.getElem_cons_zero, List.getElem_cons_succ, Option.isNone_some, Option.isNone_none, List.getD_cons_zero, List.getD_cons_succ, I.at, atL, atO, atP, evp, evs, retV, ↓reduceIte, Nat.reduceEqDiff, reduceCtorEq], by simp only [WS, List.getElem_cons_zero, List.getElem_cons_succ, Option.isNone_some, Option.isNone_none, List.getD_cons_zero, List.getD_cons_succ, I.at, atL, atO, atP, evp, evs, retV, ↓reduceIte, Nat.reduceEqDiff, reduceCtorEq], by simp only [WS, List.getElem_cons_zero, List.getElem_cons_succ, Option.isNone_some, Option.isNone_none, List.getD_cons_zero, List.getD_cons_succ, I.at, atL, atO, atP, evp, evs, retV, ↓reduceIte, Nat.reduceEqDiff, reduceCtorEq], by simp only [WS, List.getElem_cons_zero, List.getElem_cons_succ, Option.isNone_some, Option.isNone_none, List.getD_cons_zero, List.getD_cons_succ, I.at, atL, atO, atP, evp, evs, retV, ↓reduceIte, Nat.reduceEqDiff, reduceCtorEq], by simp only [WS, List.getElem_cons_zero, List.getElem_cons_succ, Option.isNone_some, Option.isNone_none, List.getD_cons_zero, List.getD_cons_succ, I.at, atL, atO, atP, evp, evs, retV, ↓reduceIte, Nat.reduceEqDiff, reduceCtorEq], by simp only [WS, List.getElem_cons_zero, List.getElem_cons_succ, Option.isNone_some, Option.isNone_none, List.getD_cons_zero, List.getD_cons_succ, I.at, atL, atO, atP, evp, evs, retV, ↓reduceIte, Nat.reduceEqDiff, reduceCtorEq], B, Lo, hSz, oo, 0, V, rfl, by omega, ov, hL⟩ ?_
  clear B Lo hSz oo ov
  rintro t wn ⟨t0, t2, t7, t8, t9, t10, g11, g13, g15, g17, g19, g21, g23, g25, B, Lo, hSz, oo, i, V2, t27, hi, ov, hL2⟩
  by_cases hil : i < 2 ^ k
  · have iv : i < V2.length := by omega
    simp (maxSteps := 1000000) (disch := omega) only [WS, List.getElem_cons_zero, List.getElem_cons_succ, Option.isNone_some, Option.isNone_none, List.getD_cons_zero, List.getD_cons_succ, I.at, atL, atO, atP, evp, evs, retV, ↓reduceIte, Nat.reduceEqDiff, reduceCtorEq, AS, t0, t2, t7, t8, t9, t10, t27, ov.sl.Xix iv, ov.sl.Xld iv, cell_e16, xor16]
    refine Ow.Xst ov iv (V2[i] + x) fun w8 ov hg => ?_
    rw [hvb] at hg
    have Lo := Lo.grown L0 hg
    have oo := oo.grown hg (fun e => by have := (oo.blk vb e).1; omega)
    have B := B.grown hg B.size fun b hb => by cases hb; exact (ov.blk vb hvb).1
    simp (maxSteps := 1000000) (disch := omega) only [WS, List.getElem_cons_zero, List.getElem_cons_succ, Option.isNone_some, Option.isNone_none, List.getD_cons_zero, List.getD_cons_succ, I.at, atL, atO, atP, evp, evs, retV, ↓reduceIte, Nat.reduceEqDiff, reduceCtorEq, AS, t0, t2, t7, t8, t9, t10, t27]
    exact ⟨⟨g11, g13, g15, g17, g19, g21, g23, g25, B, Lo, Nat.le_trans hSz hg.size, oo, i + 1, _, rfl, by omega, ov, by simp [hL2]⟩, by omega⟩

  simp (maxSteps := 1000000) (disch := omega) only [WS, List.getElem_cons_zero, List.getElem_cons_succ, Option.isNone_some, Option.isNone_none, List.getD_cons_zero, List.getD_cons_succ, I.at, atL, atO, atP, evp, evs, retV, ↓reduceIte, Nat.reduceEqDiff, reduceCtorEq, AS, t0, t2, t7, t8, t9, t10, g11, g13, g15, g17, g19, g21, g23, g25, t27]
  refine X_bsl (zs := ([] : List (El 16))) (by rfl) (by rfl) fun e0 w6 oe hB1 => ?_
  have cc := ov.up hB1
  simp (maxSteps := 1000000) (disch := omega) only [WS, List.getElem_cons_zero, List.getElem_cons_succ, Option.isNone_some, Option.isNone_none, List.getD_cons_zero, List.getD_cons_succ, I.at, atL, atO, atP, evp, evs, retV, ↓reduceIte, Nat.reduceEqDiff, reduceCtorEq, AS, t0, t2, t7, t8, t9, t10, g11, g13, g15, g17, g19, g21, g23, g25]
  refine Ow.Xapp2 oe cc.sl hB1.size (by rw [List.length_nil, hL2]; exact hbig2) (by rw [List.length_nil, hL2]; exact hbig3) fun c_n w7 oc_n hg => ?_
  rw [List.nil_append] at oc_n
  have hB := hg.below hB1 hB1.size fun b hb => (oe.blk b hb).1
  clear hg oe hB1 cc
  have Lo := Lo.push hB hSz oc_n
  have hSz := Nat.le_trans hSz hB.size
  have on := oc_n.mono B.size
  clear oc_n
  have ov := ov.up hB
  have oo := oo.up hB
  have B := B.trans (hB.mono B.size)
  clear hB
  simp (maxSteps := 1000000) (disch := omega) only [WS, List.getElem_cons_zero, List.getElem_cons_succ, Option.isNone_some, Option.isNone_none, List.getD_cons_zero, List.getD_cons_succ, I.at, atL, atO, atP, evp, evs, retV, ↓reduceIte, Nat.reduceEqDiff, reduceCtorEq, AS, t0, t2, t7, t8, t9, t10, g11, g13, g15, g17, g19, g21, g23, g25]
  refine X_call0 ((fwd_any ov.sl hL2 hk hP).mono ?_)
  rintro _ wn ⟨s_f3, f3, rfl, o_f3, l_f3, h_f3, hB⟩
  have Lo := Lo.push hB hSz o_f3
  have hSz := Nat.le_trans hSz hB.size
  clear o_f3
  have ov := ov.up hB
  have oo := oo.up hB
  have on := on.up hB
  have B := B.trans (hB.mono B.size)
  clear hB
  simp (maxSteps := 1000000) (disch := omega) only [WS, List.getElem_cons_zero, List.getElem_cons_succ, Option.isNone_some, Option.isNone_none, List.getD_cons_zero, List.getD_cons_succ, I.at, atL, atO, atP, evp, evs, retV, ↓reduceIte, Nat.reduceEqDiff, reduceCtorEq, AS, t0, t2, t7, t8, t9, t10, g11, g13, g15, g17, g19, g21, g23, g25]
  refine X_call0 ((inv_any ov.sl hL2 hk hP).mono ?_)
  rintro _ wn ⟨s_i3, i3, rfl, o_i3, l_i3, h_i3, hB⟩
  have Lo := Lo.push hB hSz o_i3
  have hSz := Nat.le_trans hSz hB.size
  clear o_i3
  have ov := ov.up hB
  have oo := oo.up hB
  have on := on.up hB
  have B := B.trans (hB.mono B.size)
  clear hB
  simp (maxSteps := 1000000) (disch := omega) only [WS, List.getElem_cons_zero, List.getElem_cons_succ, Option.isNone_some, Option.isNone_none, List.getD_cons_zero, List.getD_cons_succ, I.at, atL, atO, atP, evp, evs, retV, ↓reduceIte, Nat.reduceEqDiff, reduceCtorEq, AS, t0, t2, t7, t8, t9, t10, g11, g13, g15, g17, g19, g21, g23, g25]
  refine X_call0 ((ext_any ov.sl hL2 hk hP hQ).mono ?_)
  rintro _ wn ⟨s_e3, e3, rfl, o_e3, l_e3, h_e3, hB⟩
  have Lo := Lo.push hB hSz o_e3
  have hSz := Nat.le_trans hSz hB.size
  clear o_e3
  have ov := ov.up hB
  have oo := oo.up hB
  have on := on.up hB
  have B := B.trans (hB.mono B.size)
  clear hB
  simp (maxSteps := 1000000) (disch := omega) only [WS, List.getElem_cons_zero, List.getElem_cons_succ, Option.isNone_some, Option.isNone_none, List.getD_cons_zero, List.getD_cons_succ, I.at, atL, atO, atP, evp, evs, retV, ↓reduceIte, Nat.reduceEqDiff, reduceCtorEq, AS, t0, t2, t7, t8, t9, t10, g11, g13, g15, g17, g19, g21, g23, g25]
  refine X_call0 ((fold_any ov.sl hL2 hk hP).mono ?_)
  rintro _ wn ⟨s_o3, o3, rfl, o_o3, l_o3, h_o3, hB⟩
  have Lo := Lo.push hB hSz o_o3
  have hSz := Nat.le_trans hSz hB.size
  clear o_o3
  have ov := ov.up hB
  have oo := oo.up hB
  have on := on.up hB
  have B := B.trans (hB.mono B.size)
  clear hB
  try simp only [List.cons_append, List.nil_append] at Lo
  simp (maxSteps := 1000000) (disch := omega) only [WS, List.getElem_cons_zero, List.getElem_cons_succ, Option.isNone_some, Option.isNone_none, List.getD_cons_zero, List.getD_cons_succ, I.at, atL, atO, atP, evp, evs, retV, ↓reduceIte, Nat.reduceEqDiff, reduceCtorEq, AS, t0, t2, t7, t8, t9, t10, g11, g13, g15, g17, g19, g21, g23, g25]
  refine X_call0 ((culletlaw14_alike_spec _ s_f1 s_f2 f1 f2 (Lo.ow 0 (s_f1, f1) (by simp only [List.getElem?_cons_succ, List.getElem?_cons_zero])).sl (Lo.ow 1 (s_f2, f2) (by simp only [List.getElem?_cons_succ, List.getElem?_cons_zero])).sl (by rw [l_f1]; exact hbig) (by rw [l_f2]; exact hbig)).mono ?_)
  rintro _ wn ⟨rfl, hk1⟩
  have hB := hk1.1
  rw [show decide (f1 = f2) = true from decide_eq_true (co_eq l_f1 l_f2 fun i hi => by rw [h_f1 i hi, h_f2 i hi])]
  have Lo := Lo.up hB
  have hSz := Nat.le_trans hSz hB.size
  clear hk1
  have ov := ov.up hB
  have oo := oo.up hB
  have on := on.up hB
  have B := B.trans (hB.mono B.size)
  clear hB
  try simp only [List.cons_append, List.nil_append] at Lo
  simp (maxSteps := 1000000) (disch := omega) only [WS, List.getElem_cons_zero, List.getElem_cons_succ, Option.isNone_some, Option.isNone_none, List.getD_cons_zero, List.getD_cons_succ, I.at, atL, atO, atP, evp, evs, retV, ↓reduceIte, Nat.reduceEqDiff, reduceCtorEq, AS, t0, t2, t7, t8, t9, t10, g11, g13, g15, g17, g19, g21, g23, g25]
  refine X_call0 ((culletlaw14_alike_spec _ s_i1 s_i2 i1 i2 (Lo.ow 2 (s_i1, i1) (by simp only [List.getElem?_cons_succ, List.getElem?_cons_zero])).sl (Lo.ow 3 (s_i2, i2) (by simp only [List.getElem?_cons_succ, List.getElem?_cons_zero])).sl (by rw [l_i1]; exact hbig) (by rw [l_i2]; exact hbig)).mono ?_)
  rintro _ wn ⟨rfl, hk1⟩
  have hB := hk1.1
  rw [show decide (i1 = i2) = true from decide_eq_true (co_eq l_i1 l_i2 fun i hi => by rw [h_i1 i hi, h_i2 i hi])]
  have Lo := Lo.up hB
  have hSz := Nat.le_trans hSz hB.size
  clear hk1
  have ov := ov.up hB
  have oo := oo.up hB
  have on := on.up hB
  have B := B.trans (hB.mono B.size)
  clear hB
  try simp only [List.cons_append, List.nil_append] at Lo
  simp (maxSteps := 1000000) (disch := omega) only [WS, List.getElem_cons_zero, List.getElem_cons_succ, Option.isNone_some, Option.isNone_none, List.getD_cons_zero, List.getD_cons_succ, I.at, atL, atO, atP, evp, evs, retV, ↓reduceIte, Nat.reduceEqDiff, reduceCtorEq, AS, t0, t2, t7, t8, t9, t10, g11, g13, g15, g17, g19, g21, g23, g25]
  refine X_call0 ((culletlaw14_alike_spec _ s_e1 s_e2 e1 e2 (Lo.ow 4 (s_e1, e1) (by simp only [List.getElem?_cons_succ, List.getElem?_cons_zero])).sl (Lo.ow 5 (s_e2, e2) (by simp only [List.getElem?_cons_succ, List.getElem?_cons_zero])).sl (by rw [l_e1]; exact hbig) (by rw [l_e2]; exact hbig)).mono ?_)
  rintro _ wn ⟨rfl, hk1⟩
  have hB := hk1.1
  rw [show decide (e1 = e2) = true from decide_eq_true (co_eq l_e1 l_e2 fun i hi => by rw [h_e1 i hi, h_e2 i hi])]
  have Lo := Lo.up hB
  have hSz := Nat.le_trans hSz hB.size
  clear hk1
  have ov := ov.up hB
  have oo := oo.up hB
  have on := on.up hB
  have B := B.trans (hB.mono B.size)
  clear hB
  try simp only [List.cons_append, List.nil_append] at Lo
  simp (maxSteps := 1000000) (disch := omega) only [WS, List.getElem_cons_zero, List.getElem_cons_succ, Option.isNone_some, Option.isNone_none, List.getD_cons_zero, List.getD_cons_succ, I.at, atL, atO, atP, evp, evs, retV, ↓reduceIte, Nat.reduceEqDiff, reduceCtorEq, AS, t0, t2, t7, t8, t9, t10, g11, g13, g15, g17, g19, g21, g23, g25]
  refine X_call0 ((culletlaw14_alike_spec _ s_o1 s_o2 o1 o2 (Lo.ow 6 (s_o1, o1) (by simp only [List.getElem?_cons_succ, List.getElem?_cons_zero])).sl (Lo.ow 7 (s_o2, o2) (by simp only [List.getElem?_cons_succ, List.getElem?_cons_zero])).sl (by rw [l_o1]; exact hbig) (by rw [l_o2]; exact hbig)).mono ?_)
  rintro _ wn ⟨rfl, hk1⟩
  have hB := hk1.1
  rw [show decide (o1 = o2) = true from decide_eq_true (co_eq l_o1 l_o2 fun i hi => by rw [h_o1 i hi, h_o2 i hi])]
  have Lo := Lo.up hB
  have hSz := Nat.le_trans hSz hB.size
  clear hk1
  have ov := ov.up hB
  have oo := oo.up hB
  have on := on.up hB
  have B := B.trans (hB.mono B.size)
  clear hB
  try simp only [List.cons_append, List.nil_append] at Lo
  simp (maxSteps := 1000000) (disch := omega) only [WS, List.getElem_cons_zero, List.getElem_cons_succ, Option.isNone_some, Option.isNone_none, List.getD_cons_zero, List.getD_cons_succ, I.at, atL, atO, atP, evp, evs, retV, ↓reduceIte, Nat.reduceEqDiff, reduceCtorEq, AS, t0, t2, t7, t8, t9, t10, g11, g13, g15, g17, g19, g21, g23, g25]
  refine X_call0 ((culletlaw14_alike_spec _ s_o1 s_i1 o1 i1 (Lo.ow 6 (s_o1, o1) (by simp only [List.getElem?_cons_succ, List.getElem?_cons_zero])).sl (Lo.ow 2 (s_i1, i1) (by simp only [List.getElem?_cons_succ, List.getElem?_cons_zero])).sl (by rw [l_o1]; exact hbig) (by rw [l_i1]; exact hbig)).mono ?_)
  rintro _ wn ⟨rfl, hk1⟩
  have hB := hk1.1
  rw [show decide (o1 = i1) = true from decide_eq_true (co_eq l_o1 l_i1 fun i hi => by rw [h_o1 i hi, h_i1 i hi])]
  have Lo := Lo.up hB
  have hSz := Nat.le_trans hSz hB.size
  clear hk1
  have ov := ov.up hB
  have oo := oo.up hB
  have on := on.up hB
  have B := B.trans (hB.mono B.size)
  clear hB
  try simp only [List.cons_append, List.nil_append] at Lo
  simp (maxSteps := 1000000) (disch := omega) only [WS, List.getElem_cons_zero, List.getElem_cons_succ, Option.isNone_some, Option.isNone_none, List.getD_cons_zero, List.getD_cons_succ, I.at, atL, atO, atP, evp, evs, retV, ↓reduceIte, Nat.reduceEqDiff, reduceCtorEq, AS, t0, t2, t7, t8, t9, t10, g11, g13, g15, g17, g19, g21, g23, g25]
  refine X_call0 ((culletlaw14_alike_spec _ s_o3 s_i3 o3 i3 (Lo.ow 12 (s_o3, o3) (by simp only [List.getElem?_cons_succ, List.getElem?_cons_zero])).sl (Lo.ow 10 (s_i3, i3) (by simp only [List.getElem?_cons_succ, List.getElem?_cons_zero])).sl (by rw [l_o3]; exact hbig) (by rw [l_i3]; exact hbig)).mono ?_)
  rintro _ wn ⟨rfl, hk1⟩
  have hB := hk1.1
  rw [show decide (o3 = i3) = true from decide_eq_true (co_eq l_o3 l_i3 fun i hi => by rw [h_o3 i hi, h_i3 i hi])]
  have Lo := Lo.up hB
  have hSz := Nat.le_trans hSz hB.size
  clear hk1
  have ov := ov.up hB
  have oo := oo.up hB
  have on := on.up hB
  have B := B.trans (hB.mono B.size)
  clear hB
  simp (maxSteps := 1000000) (disch := omega) only [WS, List.getElem_cons_zero, List.getElem_cons_succ, Option.isNone_some, Option.isNone_none, List.getD_cons_zero, List.getD_cons_succ, I.at, atL, atO, atP, evp, evs, retV, ↓reduceIte, Nat.reduceEqDiff, reduceCtorEq, AS, t0, t2, t7, t8, t9, t10, g11, g13, g15, g17, g19, g21, g23, g25]
  refine X_bsl (zs := ([] : List (El 16))) (by rfl) (by rfl) fun e0 w6 oe hB1 => ?_
  have cc := (Lo.ow 0 (s_f1, f1) (by simp only [List.getElem?_cons_succ, List.getElem?_cons_zero])).up hB1
  simp (maxSteps := 1000000) (disch := omega) only [WS, List.getElem_cons_zero, List.getElem_cons_succ, Option.isNone_some, Option.isNone_none, List.getD_cons_zero, List.getD_cons_succ, I.at, atL, atO, atP, evp, evs, retV, ↓reduceIte, Nat.reduceEqDiff, reduceCtorEq, AS, t0, t2, t7, t8, t9, t10, g11, g13, g15, g17, g19, g21, g23, g25]
  refine Ow.Xapp2 oe cc.sl hB1.size (by rw [List.length_nil, l_f1]; exact hbig2) (by rw [List.length_nil, l_f1]; exact hbig3) fun c_b1 w7 oc_b1 hg => ?_
  rw [List.nil_append] at oc_b1
  have hB := hg.below hB1 hB1.size fun b hb => (oe.blk b hb).1
  clear hg oe hB1 cc
  have Lo := Lo.up hB
  have hSz := Nat.le_trans hSz hB.size
  have oc := oc_b1.sl
  clear oc_b1
  have ov := ov.up hB
  have oo := oo.up hB
  have on := on.up hB
  have B := B.trans (hB.mono B.size)
  clear hB
  simp (maxSteps := 1000000) (disch := omega) only [WS, List.getElem_cons_zero, List.getElem_cons_succ, Option.isNone_some, Option.isNone_none, List.getD_cons_zero, List.getD_cons_succ, I.at, atL, atO, atP, evp, evs, retV, ↓reduceIte, Nat.reduceEqDiff, reduceCtorEq, AS, t0, t2, t7, t8, t9, t10, g11, g13, g15, g17, g19, g21, g23, g25]
  refine X_call0 ((inv_any oc l_f1 hk hP).mono ?_)
  rintro _ wn ⟨s_b1, b1, rfl, o_b1, l_b1, h_b1, hB⟩
  have Lo := Lo.push hB hSz o_b1
  have hSz := Nat.le_trans hSz hB.size
  clear o_b1
  have ov := ov.up hB
  have oo := oo.up hB
  have on := on.up hB
  have B := B.trans (hB.mono B.size)
  clear hB
  clear oc
  try simp only [List.cons_append, List.nil_append] at Lo
  simp (maxSteps := 1000000) (disch := omega) only [WS, List.getElem_cons_zero, List.getElem_cons_succ, Option.isNone_some, Option.isNone_none, List.getD_cons_zero, List.getD_cons_succ, I.at, atL, atO, atP, evp, evs, retV, ↓reduceIte, Nat.reduceEqDiff, reduceCtorEq, AS, t0, t2, t7, t8, t9, t10, g11, g13, g15, g17, g19, g21, g23, g25]
  refine X_bsl (zs := ([] : List (El 16))) (by rfl) (by rfl) fun e0 w6 oe hB1 => ?_
  have cc := (Lo.ow 9 (s_f3, f3) (by simp only [List.getElem?_cons_succ, List.getElem?_cons_zero])).up hB1
  simp (maxSteps := 1000000) (disch := omega) only [WS, List.getElem_cons_zero, List.getElem_cons_succ, Option.isNone_some, Option.isNone_none, List.getD_cons_zero, List.getD_cons_succ, I.at, atL, atO, atP, evp, evs, retV, ↓reduceIte, Nat.reduceEqDiff, reduceCtorEq, AS, t0, t2, t7, t8, t9, t10, g11, g13, g15, g17, g19, g21, g23, g25]
  refine Ow.Xapp2 oe cc.sl hB1.size (by rw [List.length_nil, l_f3]; exact hbig2) (by rw [List.length_nil, l_f3]; exact hbig3) fun c_b3 w7 oc_b3 hg => ?_
  rw [List.nil_append] at oc_b3
  have hB := hg.below hB1 hB1.size fun b hb => (oe.blk b hb).1
  clear hg oe hB1 cc
  have Lo := Lo.up hB
  have hSz := Nat.le_trans hSz hB.size
  have oc := oc_b3.sl
  clear oc_b3
  have ov := ov.up hB
  have oo := oo.up hB
  have on := on.up hB
  have B := B.trans (hB.mono B.size)
  clear hB
  simp (maxSteps := 1000000) (disch := omega) only [WS, List.getElem_cons_zero, List.getElem_cons_succ, Option.isNone_some, Option.isNone_none, List.getD_cons_zero, List.getD_cons_succ, I.at, atL, atO, atP, evp, evs, retV, ↓reduceIte, Nat.reduceEqDiff, reduceCtorEq, AS, t0, t2, t7, t8, t9, t10, g11, g13, g15, g17, g19, g21, g23, g25]
  refine X_call0 ((inv_any oc l_f3 hk hP).mono ?_)
  rintro _ wn ⟨s_b3, b3, rfl, o_b3, l_b3, h_b3, hB⟩
  have Lo := Lo.push hB hSz o_b3
  have hSz := Nat.le_trans hSz hB.size
  clear o_b3
  have ov := ov.up hB
  have oo := oo.up hB
  have on := on.up hB
  have B := B.trans (hB.mono B.size)
  clear hB
  clear oc
  try simp only [List.cons_append, List.nil_append] at Lo
  simp (maxSteps := 1000000) (disch := omega) only [WS, List.getElem_cons_zero, List.getElem_cons_succ, Option.isNone_some, Option.isNone_none, List.getD_cons_zero, List.getD_cons_succ, I.at, atL, atO, atP, evp, evs, retV, ↓reduceIte, Nat.reduceEqDiff, reduceCtorEq, AS, t0, t2, t7, t8, t9, t10, g11, g13, g15, g17, g19, g21, g23, g25]
  refine X_bsl (zs := ([] : List (El 16))) (by rfl) (by rfl) fun e0 w6 oe hB1 => ?_
  have cc := (Lo.ow 2 (s_i1, i1) (by simp only [List.getElem?_cons_succ, List.getElem?_cons_zero])).up hB1
  simp (maxSteps := 1000000) (disch := omega) only [WS, List.getElem_cons_zero, List.getElem_cons_succ, Option.isNone_some, Option.isNone_none, List.getD_cons_zero, List.getD_cons_succ, I.at, atL, atO, atP, evp, evs, retV, ↓reduceIte, Nat.reduceEqDiff, reduceCtorEq, AS, t0, t2, t7, t8, t9, t10, g11, g13, g15, g17, g19, g21, g23, g25]
  refine Ow.Xapp2 oe cc.sl hB1.size (by rw [List.length_nil, l_i1]; exact hbig2) (by rw [List.length_nil, l_i1]; exact hbig3) fun c_c1 w7 oc_c1 hg => ?_
  rw [List.nil_append] at oc_c1
  have hB := hg.below hB1 hB1.size fun b hb => (oe.blk b hb).1
  clear hg oe hB1 cc
  have Lo := Lo.up hB
  have hSz := Nat.le_trans hSz hB.size
  have oc := oc_c1.sl
  clear oc_c1
  have ov := ov.up hB
  have oo := oo.up hB
  have on := on.up hB
  have B := B.trans (hB.mono B.size)
  clear hB
  simp (maxSteps := 1000000) (disch := omega) only [WS, List.getElem_cons_zero, List.getElem_cons_succ, Option.isNone_some, Option.isNone_none, List.getD_cons_zero, List.getD_cons_succ, I.at, atL, atO, atP, evp, evs, retV, ↓reduceIte, Nat.reduceEqDiff, reduceCtorEq, AS, t0, t2, t7, t8, t9, t10, g11, g13, g15, g17, g19, g21, g23, g25]
  refine X_call0 ((fwd_any oc l_i1 hk hP).mono ?_)
  rintro _ wn ⟨s_c1, c1, rfl, o_c1, l_c1, h_c1, hB⟩
  have Lo := Lo.push hB hSz o_c1
  have hSz := Nat.le_trans hSz hB.size
  clear o_c1
  have ov := ov.up hB
  have oo := oo.up hB
  have on := on.up hB
  have B := B.trans (hB.mono B.size)
  clear hB
  clear oc
  try simp only [List.cons_append, List.nil_append] at Lo
  simp (maxSteps := 1000000) (disch := omega) only [WS, List.getElem_cons_zero, List.getElem_cons_succ, Option.isNone_some, Option.isNone_none, List.getD_cons_zero, List.getD_cons_succ, I.at, atL, atO, atP, evp, evs, retV, ↓reduceIte, Nat.reduceEqDiff, reduceCtorEq, AS, t0, t2, t7, t8, t9, t10, g11, g13, g15, g17, g19, g21, g23, g25]
  refine X_bsl (zs := ([] : List (El 16))) (by rfl) (by rfl) fun e0 w6 oe hB1 => ?_
  have cc := (Lo.ow 10 (s_i3, i3) (by simp only [List.getElem?_cons_succ, List.getElem?_cons_zero])).up hB1
  simp (maxSteps := 1000000) (disch := omega) only [WS, List.getElem_cons_zero, List.getElem_cons_succ, Option.isNone_some, Option.isNone_none, List.getD_cons_zero, List.getD_cons_succ, I.at, atL, atO, atP, evp, evs, retV, ↓reduceIte, Nat.reduceEqDiff, reduceCtorEq, AS, t0, t2, t7, t8, t9, t10, g11, g13, g15, g17, g19, g21, g23, g25]
  refine Ow.Xapp2 oe cc.sl hB1.size (by rw [List.length_nil, l_i3]; exact hbig2) (by rw [List.length_nil, l_i3]; exact hbig3) fun c_c3 w7 oc_c3 hg => ?_
  rw [List.nil_append] at oc_c3
  have hB := hg.below hB1 hB1.size fun b hb => (oe.blk b hb).1
  clear hg oe hB1 cc
  have Lo := Lo.up hB
  have hSz := Nat.le_trans hSz hB.size
  have oc := oc_c3.sl
  clear oc_c3
  have ov := ov.up hB
  have oo := oo.up hB
  have on := on.up hB
  have B := B.trans (hB.mono B.size)
  clear hB
  simp (maxSteps := 1000000) (disch := omega) only [WS, List.getElem_cons_zero, List.getElem_cons_succ, Option.isNone_some, Option.isNone_none, List.getD_cons_zero, List.getD_cons_succ, I.at, atL, atO, atP, evp, evs, retV, ↓reduceIte, Nat.reduceEqDiff, reduceCtorEq, AS, t0, t2, t7, t8, t9, t10, g11, g13, g15, g17, g19, g21, g23, g25]
  refine X_call0 ((fwd_any oc l_i3 hk hP).mono ?_)
  rintro _ wn ⟨s_c3, c3, rfl, o_c3, l_c3, h_c3, hB⟩
  have Lo := Lo.push hB hSz o_c3
  have hSz := Nat.le_trans hSz hB.size
  clear o_c3
  have ov := ov.up hB
  have oo := oo.up hB
  have on := on.up hB
  have B := B.trans (hB.mono B.size)
  clear hB
  clear oc
  try simp only [List.cons_append, List.nil_append] at Lo
  simp (maxSteps := 1000000) (disch := omega) only [WS, List.getElem_cons_zero, List.getElem_cons_succ, Option.isNone_some, Option.isNone_none, List.getD_cons_zero, List.getD_cons_succ, I.at, atL, atO, atP, evp, evs, retV, ↓reduceIte, Nat.reduceEqDiff, reduceCtorEq, AS, t0, t2, t7, t8, t9, t10, g11, g13, g15, g17, g19, g21, g23, g25]
  refine X_bsl (zs := ([] : List (El 16))) (by rfl) (by rfl) fun e0 w6 oe hB1 => ?_
  have cc := (Lo.ow 4 (s_e1, e1) (by simp only [List.getElem?_cons_succ, List.getElem?_cons_zero])).up hB1
  simp (maxSteps := 1000000) (disch := omega) only [WS, List.getElem_cons_zero, List.getElem_cons_succ, Option.isNone_some, Option.isNone_none, List.getD_cons_zero, List.getD_cons_succ, I.at, atL, atO, atP, evp, evs, retV, ↓reduceIte, Nat.reduceEqDiff, reduceCtorEq, AS, t0, t2, t7, t8, t9, t10, g11, g13, g15, g17, g19, g21, g23, g25]
  refine Ow.Xapp2 oe cc.sl hB1.size (by rw [List.length_nil, l_e1]; exact hbig2) (by rw [List.length_nil, l_e1]; exact hbig3) fun c_d1 w7 oc_d1 hg => ?_
  rw [List.nil_append] at oc_d1
  have hB := hg.below hB1 hB1.size fun b hb => (oe.blk b hb).1
  clear hg oe hB1 cc
  have Lo := Lo.up hB
  have hSz := Nat.le_trans hSz hB.size
  have oc := oc_d1.sl
  clear oc_d1
  have ov := ov.up hB
  have oo := oo.up hB
  have on := on.up hB
  have B := B.trans (hB.mono B.size)
  clear hB
  simp (maxSteps := 1000000) (disch := omega) only [WS, List.getElem_cons_zero, List.getElem_cons_succ, Option.isNone_some, Option.isNone_none, List.getD_cons_zero, List.getD_cons_succ, I.at, atL, atO, atP, evp, evs, retV, ↓reduceIte, Nat.reduceEqDiff, reduceCtorEq, AS, t0, t2, t7, t8, t9, t10, g11, g13, g15, g17, g19, g21, g23, g25]
  refine X_call0 ((ext_any oc l_e1 hk hQ hP).mono ?_)
  rintro _ wn ⟨s_d1, d1, rfl, o_d1, l_d1, h_d1, hB⟩
  have Lo := Lo.push hB hSz o_d1
  have hSz := Nat.le_trans hSz hB.size
  clear o_d1
  have ov := ov.up hB
  have oo := oo.up hB
  have on := on.up hB
  have B := B.trans (hB.mono B.size)
  clear hB
  clear oc
  try simp only [List.cons_append, List.nil_append] at Lo
  simp (maxSteps := 1000000) (disch := omega) only [WS, List.getElem_cons_zero, List.getElem_cons_succ, Option.isNone_some, Option.isNone_none, List.getD_cons_zero, List.getD_cons_succ, I.at, atL, atO, atP, evp, evs, retV, ↓reduceIte, Nat.reduceEqDiff, reduceCtorEq, AS, t0, t2, t7, t8, t9, t10, g11, g13, g15, g17, g19, g21, g23, g25]
  refine X_bsl (zs := ([] : List (El 16))) (by rfl) (by rfl) fun e0 w6 oe hB1 => ?_
  have cc := (Lo.ow 11 (s_e3, e3) (by simp only [List.getElem?_cons_succ, List.getElem?_cons_zero])).up hB1
  simp (maxSteps := 1000000) (disch := omega) only [WS, List.getElem_cons_zero, List.getElem_cons_succ, Option.isNone_some, Option.isNone_none, List.getD_cons_zero, List.getD_cons_succ, I.at, atL, atO, atP, evp, evs, retV, ↓reduceIte, Nat.reduceEqDiff, reduceCtorEq, AS, t0, t2, t7, t8, t9, t10, g11, g13, g15, g17, g19, g21, g23, g25]
  refine Ow.Xapp2 oe cc.sl hB1.size (by rw [List.length_nil, l_e3]; exact hbig2) (by rw [List.length_nil, l_e3]; exact hbig3) fun c_d3 w7 oc_d3 hg => ?_
  rw [List.nil_append] at oc_d3
  have hB := hg.below hB1 hB1.size fun b hb => (oe.blk b hb).1
  clear hg oe hB1 cc
  have Lo := Lo.up hB
  have hSz := Nat.le_trans hSz hB.size
  have oc := oc_d3.sl
  clear oc_d3
  have ov := ov.up hB
  have oo := oo.up hB
  have on := on.up hB
  have B := B.trans (hB.mono B.size)
  clear hB
  simp (maxSteps := 1000000) (disch := omega) only [WS, List.getElem_cons_zero, List.getElem_cons_succ, Option.isNone_some, Option.isNone_none, List.getD_cons_zero, List.getD_cons_succ, I.at, atL, atO, atP, evp, evs, retV, ↓reduceIte, Nat.reduceEqDiff, reduceCtorEq, AS, t0, t2, t7, t8, t9, t10, g11, g13, g15, g17, g19, g21, g23, g25]
  refine X_call0 ((ext_any oc l_e3 hk hQ hP).mono ?_)
  rintro _ wn ⟨s_d3, d3, rfl, o_d3, l_d3, h_d3, hB⟩
  have Lo := Lo.push hB hSz o_d3
  have hSz := Nat.le_trans hSz hB.size
  clear o_d3
  have ov := ov.up hB
  have oo := oo.up hB
  have on := on.up hB
  have B := B.trans (hB.mono B.size)
  clear hB
  clear oc
  try simp only [List.cons_append, List.nil_append] at Lo
  try simp only [List.cons_append, List.nil_append] at Lo
  simp (maxSteps := 1000000) (disch := omega) only [WS, List.getElem_cons_zero, List.getElem_cons_succ, Option.isNone_some, Option.isNone_none, List.getD_cons_zero, List.getD_cons_succ, I.at, atL, atO, atP, evp, evs, retV, ↓reduceIte, Nat.reduceEqDiff, reduceCtorEq, AS, t0, t2, t7, t8, t9, t10, g11, g13, g15, g17, g19, g21, g23, g25]
  refine X_call0 ((culletlaw14_alike_spec _ s_b1 so b1 V (Lo.ow 13 (s_b1, b1) (by simp only [List.getElem?_cons_succ, List.getElem?_cons_zero])).sl oo.sl (by rw [l_b1]; exact hbig) (by rw [hL]; exact hbig)).mono ?_)
  rintro _ wn ⟨rfl, hk1⟩
  have hB := hk1.1
  rw [show decide (b1 = V) = true from decide_eq_true (co_eq l_b1 hL fun i hi => by rw [h_b1 i hi, itI_loc (n := 2 ^ k) (Nat.mod_self _) h_f1 i hi, itI_itF])]
  have Lo := Lo.up hB
  have hSz := Nat.le_trans hSz hB.size
  clear hk1
  have ov := ov.up hB
  have oo := oo.up hB
  have on := on.up hB
  have B := B.trans (hB.mono B.size)
  clear hB
  try simp only [List.cons_append, List.nil_append] at Lo
  simp (maxSteps := 1000000) (disch := omega) only [WS, List.getElem_cons_zero, List.getElem_cons_succ, Option.isNone_some, Option.isNone_none, List.getD_cons_zero, List.getD_cons_succ, I.at, atL, atO, atP, evp, evs, retV, ↓reduceIte, Nat.reduceEqDiff, reduceCtorEq, AS, t0, t2, t7, t8, t9, t10, g11, g13, g15, g17, g19, g21, g23, g25]
  refine X_call0 ((culletlaw14_alike_spec _ s_b3 c_n b3 V2 (Lo.ow 14 (s_b3, b3) (by simp only [List.getElem?_cons_succ, List.getElem?_cons_zero])).sl on.sl (by rw [l_b3]; exact hbig) (by rw [hL2]; exact hbig)).mono ?_)
  rintro _ wn ⟨rfl, hk1⟩
  have hB := hk1.1
  rw [show decide (b3 = V2) = true from decide_eq_true (co_eq l_b3 hL2 fun i hi => by rw [h_b3 i hi, itI_loc (n := 2 ^ k) (Nat.mod_self _) h_f3 i hi, itI_itF])]
  have Lo := Lo.up hB
  have hSz := Nat.le_trans hSz hB.size
  clear hk1
  have ov := ov.up hB
  have oo := oo.up hB
  have on := on.up hB
  have B := B.trans (hB.mono B.size)
  clear hB
  try simp only [List.cons_append, List.nil_append] at Lo
  simp (maxSteps := 1000000) (disch := omega) only [WS, List.getElem_cons_zero, List.getElem_cons_succ, Option.isNone_some, Option.isNone_none, List.getD_cons_zero, List.getD_cons_succ, I.at, atL, atO, atP, evp, evs, retV, ↓reduceIte, Nat.reduceEqDiff, reduceCtorEq, AS, t0, t2, t7, t8, t9, t10, g11, g13, g15, g17, g19, g21, g23, g25]
  refine X_call0 ((culletlaw14_alike_spec _ s_c1 so c1 V (Lo.ow 15 (s_c1, c1) (by simp only [List.getElem?_cons_succ, List.getElem?_cons_zero])).sl oo.sl (by rw [l_c1]; exact hbig) (by rw [hL]; exact hbig)).mono ?_)
  rintro _ wn ⟨rfl, hk1⟩
  have hB := hk1.1
  rw [show decide (c1 = V) = true from decide_eq_true (co_eq l_c1 hL fun i hi => by rw [h_c1 i hi, itF_loc (n := 2 ^ k) (Nat.mod_self _) h_i1 i hi, itF_itI])]
  have Lo := Lo.up hB
  have hSz := Nat.le_trans hSz hB.size
  clear hk1
  have ov := ov.up hB
  have oo := oo.up hB
  have on := on.up hB
  have B := B.trans (hB.mono B.size)
  clear hB
  try simp only [List.cons_append, List.nil_append] at Lo
  simp (maxSteps := 1000000) (disch := omega) only [WS, List.getElem_cons_zero, List.getElem_cons_succ, Option.isNone_some, Option.isNone_none, List.getD_cons_zero, List.getD_cons_succ, I.at, atL, atO, atP, evp, evs, retV, ↓reduceIte, Nat.reduceEqDiff, reduceCtorEq, AS, t0, t2, t7, t8, t9, t10, g11, g13, g15, g17, g19, g21, g23, g25]
  refine X_call0 ((culletlaw14_alike_spec _ s_c3 c_n c3 V2 (Lo.ow 16 (s_c3, c3) (by simp only [List.getElem?_cons_succ, List.getElem?_cons_zero])).sl on.sl (by rw [l_c3]; exact hbig) (by rw [hL2]; exact hbig)).mono ?_)
  rintro _ wn ⟨rfl, hk1⟩
  have hB := hk1.1
  rw [show decide (c3 = V2) = true from decide_eq_true (co_eq l_c3 hL2 fun i hi => by rw [h_c3 i hi, itF_loc (n := 2 ^ k) (Nat.mod_self _) h_i3 i hi, itF_itI])]
  have Lo := Lo.up hB
  have hSz := Nat.le_trans hSz hB.size
  clear hk1
  have ov := ov.up hB
  have oo := oo.up hB
  have on := on.up hB
  have B := B.trans (hB.mono B.size)
  clear hB
  try simp only [List.cons_append, List.nil_append] at Lo
  simp (maxSteps := 1000000) (disch := omega) only [WS, List.getElem_cons_zero, List.getElem_cons_succ, Option.isNone_some, Option.isNone_none, List.getD_cons_zero, List.getD_cons_succ, I.at, atL, atO, atP, evp, evs, retV, ↓reduceIte, Nat.reduceEqDiff, reduceCtorEq, AS, t0, t2, t7, t8, t9, t10, g11, g13, g15, g17, g19, g21, g23, g25]
  refine X_call0 ((culletlaw14_alike_spec _ s_d1 so d1 V (Lo.ow 17 (s_d1, d1) (by simp only [List.getElem?_cons_succ, List.getElem?_cons_zero])).sl oo.sl (by rw [l_d1]; exact hbig) (by rw [hL]; exact hbig)).mono ?_)
  rintro _ wn ⟨rfl, hk1⟩
  have hB := hk1.1
  rw [show decide (d1 = V) = true from decide_eq_true (co_eq l_d1 hL fun i hi => by rw [h_d1 i hi, itF_loc (n := 2 ^ k) (Nat.mod_self _) (itI_loc (n := 2 ^ k) (Nat.mod_self _) h_e1) i hi, itI_itF, itF_itI])]
  have Lo := Lo.up hB
  have hSz := Nat.le_trans hSz hB.size
  clear hk1
  have ov := ov.up hB
  have oo := oo.up hB
  have on := on.up hB
  have B := B.trans (hB.mono B.size)
  clear hB
  try simp only [List.cons_append, List.nil_append] at Lo
  simp (maxSteps := 1000000) (disch := omega) only [WS, List.getElem_cons_zero, List.getElem_cons_succ, Option.isNone_some, Option.isNone_none, List.getD_cons_zero, List.getD_cons_succ, I.at, atL, atO, atP, evp, evs, retV, ↓reduceIte, Nat.reduceEqDiff, reduceCtorEq, AS, t0, t2, t7, t8, t9, t10, g11, g13, g15, g17, g19, g21, g23, g25]
  refine X_call0 ((culletlaw14_alike_spec _ s_d3 c_n d3 V2 (Lo.ow 18 (s_d3, d3) (by simp only [List.getElem?_cons_succ, List.getElem?_cons_zero])).sl on.sl (by rw [l_d3]; exact hbig) (by rw [hL2]; exact hbig)).mono ?_)
  rintro _ wn ⟨rfl, hk1⟩
  have hB := hk1.1
  rw [show decide (d3 = V2) = true from decide_eq_true (co_eq l_d3 hL2 fun i hi => by rw [h_d3 i hi, itF_loc (n := 2 ^ k) (Nat.mod_self _) (itI_loc (n := 2 ^ k) (Nat.mod_self _) h_e3) i hi, itI_itF, itF_itI])]
  have Lo := Lo.up hB
  have hSz := Nat.le_trans hSz hB.size
  clear hk1
  have ov := ov.up hB
  have oo := oo.up hB
  have on := on.up hB
  have B := B.trans (hB.mono B.size)
  clear hB
  rw [show ([(s_f1, f1), (s_f2, f2), (s_i1, i1), (s_i2, i2), (s_e1, e1), (s_e2, e2), (s_o1, o1), (s_o2, o2), (c_n, V2), (s_f3, f3), (s_i3, i3), (s_e3, e3), (s_o3, o3), (s_b1, b1), (s_b3, b3), (s_c1, c1), (s_c3, c3), (s_d1, d1), (s_d3, d3)] : List (Value × List (El 16))) = [(s_f1, f1), (s_f2, f2), (s_i1, i1), (s_i2, i2), (s_e1, e1), (s_e2, e2), (s_o1, o1), (s_o2, o2)] ++ (c_n, V2) :: [(s_f3, f3), (s_i3, i3), (s_e3, e3), (s_o3, o3), (s_b1, b1), (s_b3, b3), (s_c1, c1), (s_c3, c3), (s_d1, d1), (s_d3, d3)] by simp only [List.cons_append, List.nil_append]] at Lo
  obtain ⟨Lo, hnb⟩ := Lo.skip
  simp only [List.cons_append, List.nil_append] at Lo hnb
  have v0 := (Lo.ow 0 (s_f1, f1) (by simp only [List.getElem?_cons_succ, List.getElem?_cons_zero])).sl.hd.1
  have v1 := (Lo.ow 1 (s_f2, f2) (by simp only [List.getElem?_cons_succ, List.getElem?_cons_zero])).sl.hd.1
  have v2 := (Lo.ow 2 (s_i1, i1) (by simp only [List.getElem?_cons_succ, List.getElem?_cons_zero])).sl.hd.1
  have v3 := (Lo.ow 3 (s_i2, i2) (by simp only [List.getElem?_cons_succ, List.getElem?_cons_zero])).sl.hd.1
  have v4 := (Lo.ow 4 (s_e1, e1) (by simp only [List.getElem?_cons_succ, List.getElem?_cons_zero])).sl.hd.1
  have v5 := (Lo.ow 5 (s_e2, e2) (by simp only [List.getElem?_cons_succ, List.getElem?_cons_zero])).sl.hd.1
  have v6 := (Lo.ow 6 (s_o1, o1) (by simp only [List.getElem?_cons_succ, List.getElem?_cons_zero])).sl.hd.1
  have v7 := (Lo.ow 7 (s_o2, o2) (by simp only [List.getElem?_cons_succ, List.getElem?_cons_zero])).sl.hd.1
  have v8 := (Lo.ow 8 (s_f3, f3) (by simp only [List.getElem?_cons_succ, List.getElem?_cons_zero])).sl.hd.1
  have v9 := (Lo.ow 9 (s_i3, i3) (by simp only [List.getElem?_cons_succ, List.getElem?_cons_zero])).sl.hd.1
  have v10 := (Lo.ow 10 (s_e3, e3) (by simp only [List.getElem?_cons_succ, List.getElem?_cons_zero])).sl.hd.1
  have v11 := (Lo.ow 11 (s_o3, o3) (by simp only [List.getElem?_cons_succ, List.getElem?_cons_zero])).sl.hd.1
  have v12 := (Lo.ow 12 (s_b1, b1) (by simp only [List.getElem?_cons_succ, List.getElem?_cons_zero])).sl.hd.1
  have v13 := (Lo.ow 13 (s_b3, b3) (by simp only [List.getElem?_cons_succ, List.getElem?_cons_zero])).sl.hd.1
  have v14 := (Lo.ow 14 (s_c1, c1) (by simp only [List.getElem?_cons_succ, List.getElem?_cons_zero])).sl.hd.1
  have v15 := (Lo.ow 15 (s_c3, c3) (by simp only [List.getElem?_cons_succ, List.getElem?_cons_zero])).sl.hd.1
  have v16 := (Lo.ow 16 (s_d1, d1) (by simp only [List.getElem?_cons_succ, List.getElem?_cons_zero])).sl.hd.1
  have v17 := (Lo.ow 17 (s_d3, d3) (by simp only [List.getElem?_cons_succ, List.getElem?_cons_zero])).sl.hd.1
  have hf := fill18 (hd s_f1) (hd s_f2) (hd s_i1) (hd s_i2) (hd s_e1) (hd s_e2) (hd s_o1) (hd s_o2) (hd s_f3) (hd s_i3) (hd s_e3) (hd s_o3) (hd s_b1) (hd s_b3) (hd s_c1) (hd s_c3) (hd s_d1) (hd s_d3)
  simp only [v0, v1, v2, v3, v4, v5, v6, v7, v8, v9, v10, v11, v12, v13, v14, v15, v16, v17] at hf
  simp (maxSteps := 1000000) (disch := omega) only [WS, List.getElem_cons_zero, List.getElem_cons_succ, Option.isNone_some, Option.isNone_none, List.getD_cons_zero, List.getD_cons_succ, I.at, atL, atO, atP, evp, evs, retV, ↓reduceIte, Nat.reduceEqDiff, reduceCtorEq, AS, t0, t2, t7, t8, t9, t10, g11, g13, g15, g17, g19, g21, g23, g25]
  refine X_bsl (zs := [hd s_f1, hd s_f2, hd s_i1, hd s_i2, hd s_e1, hd s_e2, hd s_o1, hd s_o2, hd s_f3, hd s_i3, hd s_e3, hd s_o3, hd s_b1, hd s_b3, hd s_c1, hd s_c3, hd s_d1, hd s_d3]) (by simp only [evp, lZ97, List.map_cons, List.map_nil, v0, v1, v2, v3, v4, v5, v6, v7, v8, v9, v10, v11, v12, v13, v14, v15, v16, v17]; exact hf) (by rfl) fun rows wr orr hB => ?_
  have ov2 := ov.up hB
  have on2 := on.up hB
  have B2 := B.trans (hB.mono B.size)
  have hFF : Frm (fun w' => Sl w' sv V2 ∧ Sl w' c_n V2 ∧ RowKit.Below w.heap.size w w' ∧ w.heap.size ≤ w'.heap.size) (fun b => b ≠ vb ∧ Fw.blk c_n ≠ some b ∧ w.heap.size ≤ b) := ⟨fun w1 w2 b h hd hg => ⟨h.1.grown hg (Or.inl (by rw [hvb]; intro e; cases e; exact hd.1 rfl)), h.2.1.grown hg (Or.inl hd.2.1), h.2.2.1.grown hg h.2.2.2 (fun k hk => by cases hk; exact hd.2.2), Nat.le_trans h.2.2.2 hg.size⟩, fun w1 w2 h hB => ⟨h.1.up hB, h.2.1.up hB, Below.up h.2.2.1 h.2.2.2 hB, Nat.le_trans h.2.2.2 hB.size⟩⟩
  obtain ⟨hap, hRf⟩ := Lo.rof (F := fun w' => Sl w' sv V2 ∧ Sl w' c_n V2 ∧ RowKit.Below w.heap.size w w' ∧ w.heap.size ≤ w'.heap.size) hSz ⟨ov2.sl, on2.sl, B2, B2.size⟩ hB orr
  have hent : ∀ j (hj : j < ([(s_f1, f1), (s_f2, f2), (s_i1, i1), (s_i2, i2), (s_e1, e1), (s_e2, e2), (s_o1, o1), (s_o2, o2), (s_f3, f3), (s_i3, i3), (s_e3, e3), (s_o3, o3), (s_b1, b1), (s_b3, b3), (s_c1, c1), (s_c3, c3), (s_d1, d1), (s_d3, d3)].map fun e => hd e.1).length), ∃ e : Value × List (El 16), [(s_f1, f1), (s_f2, f2), (s_i1, i1), (s_i2, i2), (s_e1, e1), (s_e2, e2), (s_o1, o1), (s_o2, o2), (s_f3, f3), (s_i3, i3), (s_e3, e3), (s_o3, o3), (s_b1, b1), (s_b3, b3), (s_c1, c1), (s_c3, c3), (s_d1, d1), (s_d3, d3)][j]? = some e ∧ Cell.v ([(s_f1, f1), (s_f2, f2), (s_i1, i1), (s_i2, i2), (s_e1, e1), (s_e2, e2), (s_o1, o1), (s_o2, o2), (s_f3, f3), (s_i3, i3), (s_e3, e3), (s_o3, o3), (s_b1, b1), (s_b3, b3), (s_c1, c1), (s_c3, c3), (s_d1, d1), (s_d3, d3)].map fun e => hd e.1)[j] = e.1 := fun j hj => by
    have hj' : j < [(s_f1, f1), (s_f2, f2), (s_i1, i1), (s_i2, i2), (s_e1, e1), (s_e2, e2), (s_o1, o1), (s_o2, o2), (s_f3, f3), (s_i3, i3), (s_e3, e3), (s_o3, o3), (s_b1, b1), (s_b3, b3), (s_c1, c1), (s_c3, c3), (s_d1, d1), (s_d3, d3)].length := by simpa using hj
    refine ⟨_, List.getElem?_eq_getElem hj', ?_⟩
    rw [List.getElem_map]
    exact (Lo.ow j _ (List.getElem?_eq_getElem hj')).sl.hd.1
  have hnsz := (on2.blk)
  simp (maxSteps := 1000000) (disch := omega) only [WS, List.getElem_cons_zero, List.getElem_cons_succ, Option.isNone_some, Option.isNone_none, List.getD_cons_zero, List.getD_cons_succ, I.at, atL, atO, atP, evp, evs, retV, ↓reduceIte, Nat.reduceEqDiff, reduceCtorEq, AS, t0, t2, t7, t8, t9, t10, g11, g13, g15, g17, g19, g21, g23, g25]
  refine X_call0 ((culletlaw14_apart_spec wr S _ (fun b => b ≠ vb ∧ Fw.blk c_n ≠ some b ∧ w.heap.size ≤ b) rows _ _ hap hFF (fun j hj b hb => ?_) (fun b hb => ⟨fun e => absurd (e ▸ hb : wr.heap.size ≤ vb) (Nat.not_le.2 (ov2.blk vb hvb).2), fun e => absurd hb (Nat.not_le.2 (on2.blk b e).2), Nat.le_trans B2.size hb⟩) hRf ?_ (fun j hj => ?_) (by simp)).mono ?_)
  · obtain ⟨e, he, ev⟩ := hent j hj
    rw [ev] at hb
    have h1 := ((Lo.ow j e he).blk b hb).1
    exact ⟨fun e => absurd (e ▸ h1 : S ≤ vb) (Nat.not_le.2 L0), hnb j e b he hb, Nat.le_trans hSB h1⟩
  · obtain ⟨b, hb, -⟩ := orr.sl.blk_lt (by simp)
    rw [hb]; simp
  · have : ∀ e ∈ [(s_f1, f1), (s_f2, f2), (s_i1, i1), (s_i2, i2), (s_e1, e1), (s_e2, e2), (s_o1, o1), (s_o2, o2), (s_f3, f3), (s_i3, i3), (s_e3, e3), (s_o3, o3), (s_b1, b1), (s_b3, b3), (s_c1, c1), (s_c3, c3), (s_d1, d1), (s_d3, d3)], e.2.length = 2 ^ k := by
      simp only [List.mem_cons, List.not_mem_nil, or_false]
      rintro e (rfl | rfl | rfl | rfl | rfl | rfl | rfl | rfl | rfl | rfl | rfl | rfl | rfl | rfl | rfl | rfl | rfl | rfl) <;> assumption
    have hj' : j < [(s_f1, f1), (s_f2, f2), (s_i1, i1), (s_i2, i2), (s_e1, e1), (s_e2, e2), (s_o1, o1), (s_o2, o2), (s_f3, f3), (s_i3, i3), (s_e3, e3), (s_o3, o3), (s_b1, b1), (s_b3, b3), (s_c1, c1), (s_c3, c3), (s_d1, d1), (s_d3, d3)].length := by simpa using hj
    have h2 := this _ (List.getElem_mem hj')
    rw [List.getD_eq_getElem?_getD, List.getElem?_map, List.getElem?_eq_getElem hj']
    exact ⟨Nat.le_trans hp (Nat.le_of_eq h2.symm), Nat.le_trans (Nat.le_of_eq h2) hmill⟩
  rintro _ wa ⟨rfl, ov, on, B, -⟩
  clear Lo hent hRf hap hFF oo ov2 on2 hf
  simp (maxSteps := 1000000) (disch := omega) only [WS, List.getElem_cons_zero, List.getElem_cons_succ, Option.isNone_some, Option.isNone_none, List.getD_cons_zero, List.getD_cons_succ, I.at, atL, atO, atP, evp, evs, retV, ↓reduceIte, Nat.reduceEqDiff, reduceCtorEq, AS, t0, t2, t7, t8, t9, t10, g11, g13, g15, g17, g19, g21, g23, g25]
  refine X_call0 ((fwd_any ov hL2 hk hP).mono ?_)
  rintro _ wb ⟨s_f4, f4, rfl, o_f4, l_f4, h_f4, hB⟩
  have o_f4 := o_f4.sl
  have ov := ov.up hB
  have on := on.up hB
  have B := B.trans (hB.mono B.size)
  clear hB
  simp (maxSteps := 1000000) (disch := omega) only [WS, List.getElem_cons_zero, List.getElem_cons_succ, Option.isNone_some, Option.isNone_none, List.getD_cons_zero, List.getD_cons_succ, I.at, atL, atO, atP, evp, evs, retV, ↓reduceIte, Nat.reduceEqDiff, reduceCtorEq, AS, t0, t2, t7, t8, t9, t10, g11, g13, g15, g17, g19, g21, g23, g25]
  refine X_call0 ((inv_any o_f4 l_f4 hk hP).mono ?_)
  rintro _ wc ⟨s_b4, b4, rfl, o_b4, l_b4, h_b4, hB⟩
  have o_b4 := o_b4.sl
  have ov := ov.up hB
  have on := on.up hB
  have B := B.trans (hB.mono B.size)
  clear hB
  simp (maxSteps := 1000000) (disch := omega) only [WS, List.getElem_cons_zero, List.getElem_cons_succ, Option.isNone_some, Option.isNone_none, List.getD_cons_zero, List.getD_cons_succ, I.at, atL, atO, atP, evp, evs, retV, ↓reduceIte, Nat.reduceEqDiff, reduceCtorEq, AS, t0, t2, t7, t8, t9, t10, g11, g13, g15, g17, g19, g21, g23, g25]
  refine X_call0 ((culletlaw14_alike_spec _ sv c_n _ _ ov on (by rw [hL2]; exact hbig) (by rw [hL2]; exact hbig)).mono ?_)
  rintro _ wd ⟨rfl, hk1⟩
  have hB := hk1.1
  rw [show decide (V2 = V2) = true from decide_eq_true rfl]
  clear hk1
  have on := on.up hB
  have o_b4 := o_b4.up hB
  have B := B.trans (hB.mono B.size)
  clear hB
  simp (maxSteps := 1000000) (disch := omega) only [WS, List.getElem_cons_zero, List.getElem_cons_succ, Option.isNone_some, Option.isNone_none, List.getD_cons_zero, List.getD_cons_succ, I.at, atL, atO, atP, evp, evs, retV, ↓reduceIte, Nat.reduceEqDiff, reduceCtorEq, AS, t0, t2, t7, t8, t9, t10, g11, g13, g15, g17, g19, g21, g23, g25]
  refine X_call0 ((culletlaw14_alike_spec _ s_b4 c_n _ _ o_b4 on (by rw [l_b4]; exact hbig) (by rw [hL2]; exact hbig)).mono ?_)
  rintro _ we ⟨rfl, hk1⟩
  have hB := hk1.1
  rw [show decide (b4 = V2) = true from decide_eq_true (co_eq l_b4 hL2 fun i hi => by rw [h_b4 i hi, itI_loc (n := 2 ^ k) (Nat.mod_self _) h_f4 i hi, itI_itF])]
  have B := B.trans (hB.mono B.size)
  clear hB
  simp only [WS, List.getElem_cons_zero, List.getElem_cons_succ, Option.isNone_some, Option.isNone_none, List.getD_cons_zero, List.getD_cons_succ, I.at, atL, atO, atP, evp, evs, retV, ↓reduceIte, Nat.reduceEqDiff, reduceCtorEq]
  exact B
end Go.Proofs.Ytpmfeaajpjjfiaa.Fw
