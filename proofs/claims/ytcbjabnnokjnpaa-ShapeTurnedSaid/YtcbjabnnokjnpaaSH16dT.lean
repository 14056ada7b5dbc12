import Derived.Test.YtcbjabnnokjnpaaProg
import Derived.Test.YtcbjabnnokjnpaaFwTT
import Derived.Test.YtcbjabnnokjnpaaSH16cT
set_option linter.all false
set_option linter.unusedVariables false
set_option linter.unusedSimpArgs false
set_option maxRecDepth 100000
set_option maxHeartbeats 1000000
namespace Go.Proofs.Ytcbjabnnokjnpaa.Fw
open Go Go.Fw Go.Proofs
attribute [local irreducible] stepI
def c_culletlaw16_ShapeTurned : C := .seq (.ops [⟨0, (some 1), none, .box 38 (.t 0), []⟩, ⟨1, (some 2), none, .mov (.c (.bool false)), []⟩]) (.seq (.seq (.ops [⟨0, (some 22), none, .call (.c (.func (.func 13) #[] #[])) [], []⟩, ⟨1, (some 23), none, .un .not (.t 22), []⟩]) (.ite (.t 23) (.seq (.ops [⟨0, (some 2), none, .mov (.c (.bool false)), []⟩]) .ret) .skip)) (.seq (.ops [⟨0, (some 24), none, .fad 1 (.t 1), []⟩, ⟨1, (some 25), none, .ld (.t 24), []⟩, ⟨2, (some 3), none, .mov (.t 25), []⟩]) (.seq (.ops [⟨0, (some 26), none, .fad 5 (.t 1), []⟩, ⟨1, (some 27), none, .ld (.t 26), []⟩, ⟨2, (some 28), none, .len (.t 27), []⟩, ⟨3, (some 4), none, .mov (.t 28), []⟩]) (.seq (.ops [⟨0, (some 29), none, .mov (.t 4), []⟩, ⟨1, (some 30), none, .mks 27 24 [.slice none 0 0] (.t 29) (.t 29), []⟩, ⟨2, (some 5), none, .mov (.t 30), []⟩]) (.seq (.seq (.ops [⟨0, (some 6), none, .mov (.c (.int .i64 0)), []⟩]) (.block 0 (.loop (.seq (.seq (.ops [⟨0, (some 31), none, .mov (.t 6), []⟩, ⟨1, (some 32), none, .mov (.t 4), []⟩, ⟨2, (some 33), none, .bin .lss (.t 31) (.t 32), []⟩]) (.ite (.t 33) .skip (.exit 0))) (.seq (.block 1 (.ops [⟨0, (some 36), none, .mov (.t 5), []⟩, ⟨1, (some 37), none, .mov (.t 6), []⟩, ⟨2, (some 38), none, .fad 5 (.t 1), []⟩, ⟨3, (some 39), none, .ld (.t 38), []⟩, ⟨4, (some 40), none, .mov (.t 4), []⟩, ⟨5, (some 41), none, .bin .sub (.t 40) (.c (.int .i64 1)), []⟩, ⟨6, (some 42), none, .mov (.t 6), []⟩, ⟨7, (some 43), none, .bin .sub (.t 41) (.t 42), []⟩, ⟨8, (some 44), none, .ixs 1 (.t 39) (.t 43), []⟩, ⟨9, (some 45), none, .ld (.t 44), []⟩, ⟨10, (some 46), none, .ixs 1 (.t 36) (.t 37), []⟩, ⟨11, none, none, .st (.t 46) (.t 45), []⟩])) (.ops [⟨0, (some 34), none, .mov (.t 6), []⟩, ⟨1, (some 35), none, .bin .add (.t 34) (.c (.int .i64 1)), []⟩, ⟨2, (some 6), none, .mov (.t 35), []⟩])))))) (.seq (.ops [⟨0, (some 48), none, .mov (.t 3), []⟩, ⟨1, (some 49), none, .fad 2 (.t 1), []⟩, ⟨2, (some 50), none, .ld (.t 49), []⟩, ⟨3, (some 51), none, .fad 3 (.t 1), []⟩, ⟨4, (some 52), none, .ld (.t 51), []⟩, ⟨5, (some 53), none, .fad 5 (.t 1), []⟩, ⟨6, (some 54), none, .ld (.t 53), []⟩, ⟨7, (some 55), none, .call (.c (.func (.func 17) #[] #[])) [.t 48, .t 50, .t 52, .t 54], []⟩, ⟨8, (some 47), none, .mov (.t 55), []⟩, ⟨9, (some 56), none, .ext (.t 47) 0, []⟩, ⟨10, (some 57), none, .ext (.t 47) 1, []⟩, ⟨11, (some 7), none, .mov (.t 56), []⟩, ⟨12, (some 8), none, .mov (.t 57), []⟩]) (.seq (.ops [⟨0, (some 59), none, .mov (.t 3), []⟩, ⟨1, (some 60), none, .fad 2 (.t 1), []⟩, ⟨2, (some 61), none, .ld (.t 60), []⟩, ⟨3, (some 62), none, .fad 3 (.t 1), []⟩, ⟨4, (some 63), none, .ld (.t 62), []⟩, ⟨5, (some 64), none, .mov (.t 5), []⟩, ⟨6, (some 65), none, .call (.c (.func (.func 17) #[] #[])) [.t 59, .t 61, .t 63, .t 64], []⟩, ⟨7, (some 58), none, .mov (.t 65), []⟩, ⟨8, (some 66), none, .ext (.t 58) 0, []⟩, ⟨9, (some 67), none, .ext (.t 58) 1, []⟩, ⟨10, (some 9), none, .mov (.t 66), []⟩, ⟨11, (some 10), none, .mov (.t 67), []⟩]) (.seq (.seq (.ops [⟨0, (some 68), none, .mov (.t 7), []⟩, ⟨1, (some 69), none, .mov (.t 9), []⟩, ⟨2, (some 70), none, .bin .neq (.t 68) (.t 69), []⟩, ⟨3, (some 71), none, .mov (.t 70), []⟩, ⟨4, (some 72), (some (71, false)), .mov (.t 8), []⟩, ⟨5, (some 73), (some (71, false)), .mov (.t 10), []⟩, ⟨6, (some 74), (some (71, false)), .bin .neq (.t 72) (.t 73), []⟩, ⟨7, (some 75), none, .pick (.t 71) (.c (.bool true)) (.t 74), []⟩]) (.ite (.t 75) (.seq (.ops [⟨0, (some 2), none, .mov (.c (.bool false)), []⟩]) .ret) .skip)) (.seq (.ops [⟨0, (some 77), none, .mov (.t 3), []⟩, ⟨1, (some 78), none, .fad 2 (.t 1), []⟩, ⟨2, (some 79), none, .ld (.t 78), []⟩, ⟨3, (some 80), none, .fad 3 (.t 1), []⟩, ⟨4, (some 81), none, .ld (.t 80), []⟩, ⟨5, (some 82), none, .fad 5 (.t 1), []⟩, ⟨6, (some 83), none, .ld (.t 82), []⟩, ⟨7, (some 84), none, .call (.c (.func (.func 24) #[] #[])) [.t 77, .t 79, .t 81, .t 83], []⟩, ⟨8, (some 76), none, .mov (.t 84), []⟩, ⟨9, (some 85), none, .ext (.t 76) 0, []⟩, ⟨10, (some 86), none, .ext (.t 76) 1, []⟩, ⟨11, (some 87), none, .ext (.t 76) 2, []⟩, ⟨12, (some 11), none, .mov (.t 85), []⟩, ⟨13, (some 12), none, .mov (.t 86), []⟩, ⟨14, (some 13), none, .mov (.t 87), []⟩]) (.seq (.ops [⟨0, (some 89), none, .mov (.t 3), []⟩, ⟨1, (some 90), none, .fad 2 (.t 1), []⟩, ⟨2, (some 91), none, .ld (.t 90), []⟩, ⟨3, (some 92), none, .fad 3 (.t 1), []⟩, ⟨4, (some 93), none, .ld (.t 92), []⟩, ⟨5, (some 94), none, .mov (.t 5), []⟩, ⟨6, (some 95), none, .call (.c (.func (.func 24) #[] #[])) [.t 89, .t 91, .t 93, .t 94], []⟩, ⟨7, (some 88), none, .mov (.t 95), []⟩, ⟨8, (some 96), none, .ext (.t 88) 0, []⟩, ⟨9, (some 97), none, .ext (.t 88) 1, []⟩, ⟨10, (some 98), none, .ext (.t 88) 2, []⟩, ⟨11, (some 14), none, .mov (.t 96), []⟩, ⟨12, (some 15), none, .mov (.t 97), []⟩, ⟨13, (some 16), none, .mov (.t 98), []⟩]) (.seq (.seq (.ops [⟨0, (some 99), none, .mov (.t 11), []⟩, ⟨1, (some 100), none, .mov (.t 14), []⟩, ⟨2, (some 101), none, .bin .neq (.t 99) (.t 100), []⟩, ⟨3, (some 102), none, .mov (.t 101), []⟩, ⟨4, (some 103), (some (102, false)), .mov (.t 13), []⟩, ⟨5, (some 104), (some (102, false)), .mov (.t 16), []⟩, ⟨6, (some 105), (some (102, false)), .bin .neq (.t 103) (.t 104), []⟩, ⟨7, (some 106), none, .pick (.t 102) (.c (.bool true)) (.t 105), []⟩, ⟨8, (some 107), none, .mov (.t 106), []⟩, ⟨9, (some 108), (some (107, false)), .mov (.t 12), []⟩, ⟨10, (some 109), (some (107, false)), .len (.t 108), []⟩, ⟨11, (some 110), (some (107, false)), .mov (.t 15), []⟩, ⟨12, (some 111), (some (107, false)), .len (.t 110), []⟩, ⟨13, (some 112), (some (107, false)), .bin .neq (.t 109) (.t 111), []⟩, ⟨14, (some 113), none, .pick (.t 107) (.c (.bool true)) (.t 112), []⟩]) (.ite (.t 113) (.seq (.ops [⟨0, (some 2), none, .mov (.c (.bool false)), []⟩]) .ret) .skip)) (.seq (.seq (.ops [⟨0, (some 114), none, .mov (.t 13), []⟩, ⟨1, (some 115), none, .bin .eql (.t 114) (.c (.int .i64 0)), []⟩]) (.ite (.t 115) (.seq (.ops [⟨0, (some 17), none, .mov (.c (.int .i64 0)), []⟩]) (.seq (.seq (.ops [⟨0, (some 18), none, .mov (.c (.int .i64 0)), []⟩]) (.block 2 (.loop (.seq (.seq (.ops [⟨0, (some 116), none, .mov (.t 18), []⟩, ⟨1, (some 117), none, .mov (.t 4), []⟩, ⟨2, (some 118), none, .bin .lss (.t 116) (.t 117), []⟩]) (.ite (.t 118) .skip (.exit 2))) (.seq (.block 3 (.seq (.seq (.ops [⟨0, (some 121), none, .fad 5 (.t 1), []⟩, ⟨1, (some 122), none, .ld (.t 121), []⟩, ⟨2, (some 123), none, .mov (.t 18), []⟩, ⟨3, (some 124), none, .ixs 1 (.t 122) (.t 123), []⟩, ⟨4, (some 125), none, .ld (.t 124), []⟩, ⟨5, (some 126), none, .len (.t 125), []⟩, ⟨6, (some 127), none, .bin .gtr (.t 126) (.c (.int .i64 0)), []⟩]) (.ite (.t 127) (.seq (.seq (.ops [⟨0, (some 128), none, .fad 5 (.t 1), []⟩, ⟨1, (some 129), none, .ld (.t 128), []⟩, ⟨2, (some 130), none, .mov (.t 18), []⟩, ⟨3, (some 131), none, .ixs 1 (.t 129) (.t 130), []⟩, ⟨4, (some 132), none, .ld (.t 131), []⟩, ⟨5, (some 133), none, .len (.t 132), []⟩, ⟨6, (some 134), none, .mov (.t 11), []⟩, ⟨7, (some 135), none, .bin .neq (.t 133) (.t 134), []⟩]) (.ite (.t 135) (.seq (.ops [⟨0, (some 2), none, .mov (.c (.bool false)), []⟩]) .ret) .skip)) (.exit 3)) .skip)) (.seq (.seq (.ops [⟨0, (some 136), none, .mov (.t 17), []⟩, ⟨1, (some 137), none, .mov (.t 12), []⟩, ⟨2, (some 138), none, .len (.t 137), []⟩, ⟨3, (some 139), none, .bin .geq (.t 136) (.t 138), []⟩, ⟨4, (some 140), none, .mov (.t 139), []⟩, ⟨5, (some 141), (some (140, false)), .mov (.t 12), []⟩, ⟨6, (some 142), (some (140, false)), .mov (.t 17), []⟩, ⟨7, (some 143), (some (140, false)), .ixs 1 (.t 141) (.t 142), []⟩, ⟨8, (some 144), (some (140, false)), .ld (.t 143), []⟩, ⟨9, (some 145), (some (140, false)), .mov (.t 18), []⟩, ⟨10, (some 146), (some (140, false)), .bin .neq (.t 144) (.t 145), []⟩, ⟨11, (some 147), none, .pick (.t 140) (.c (.bool true)) (.t 146), []⟩, ⟨12, (some 148), none, .mov (.t 147), []⟩, ⟨13, (some 149), (some (148, false)), .mov (.t 15), []⟩, ⟨14, (some 150), (some (148, false)), .mov (.t 15), []⟩, ⟨15, (some 151), (some (148, false)), .len (.t 150), []⟩, ⟨16, (some 152), (some (148, false)), .bin .sub (.t 151) (.c (.int .i64 1)), []⟩, ⟨17, (some 153), (some (148, false)), .mov (.t 17), []⟩, ⟨18, (some 154), (some (148, false)), .bin .sub (.t 152) (.t 153), []⟩, ⟨19, (some 155), (some (148, false)), .ixs 1 (.t 149) (.t 154), []⟩, ⟨20, (some 156), (some (148, false)), .ld (.t 155), []⟩, ⟨21, (some 157), (some (148, false)), .mov (.t 4), []⟩, ⟨22, (some 158), (some (148, false)), .bin .sub (.t 157) (.c (.int .i64 1)), []⟩, ⟨23, (some 159), (some (148, false)), .mov (.t 18), []⟩, ⟨24, (some 160), (some (148, false)), .bin .sub (.t 158) (.t 159), []⟩, ⟨25, (some 161), (some (148, false)), .bin .neq (.t 156) (.t 160), []⟩, ⟨26, (some 162), none, .pick (.t 148) (.c (.bool true)) (.t 161), []⟩]) (.ite (.t 162) (.seq (.ops [⟨0, (some 2), none, .mov (.c (.bool false)), []⟩]) .ret) .skip)) (.ops [⟨0, (some 163), none, .mov (.t 17), []⟩, ⟨1, (some 164), none, .bin .add (.t 163) (.c (.int .i64 1)), []⟩, ⟨2, (some 17), none, .mov (.t 164), []⟩])))) (.ops [⟨0, (some 119), none, .mov (.t 18), []⟩, ⟨1, (some 120), none, .bin .add (.t 119) (.c (.int .i64 1)), []⟩, ⟨2, (some 18), none, .mov (.t 120), []⟩])))))) (.seq (.ops [⟨0, (some 165), none, .mov (.t 17), []⟩, ⟨1, (some 166), none, .mov (.t 12), []⟩, ⟨2, (some 167), none, .len (.t 166), []⟩, ⟨3, (some 168), none, .bin .neq (.t 165) (.t 167), []⟩, ⟨4, (some 169), none, .mov (.t 168), []⟩, ⟨5, (some 170), (some (169, false)), .mov (.t 4), []⟩, ⟨6, (some 171), (some (169, false)), .mov (.t 17), []⟩, ⟨7, (some 172), (some (169, false)), .bin .sub (.t 170) (.t 171), []⟩, ⟨8, (some 173), (some (169, false)), .fad 2 (.t 1), []⟩, ⟨9, (some 174), (some (169, false)), .ld (.t 173), []⟩, ⟨10, (some 175), (some (169, false)), .bin .lss (.t 172) (.t 174), []⟩, ⟨11, (some 176), none, .pick (.t 169) (.c (.bool true)) (.t 175), []⟩, ⟨12, (some 177), none, .mov (.t 176), []⟩, ⟨13, (some 178), (some (177, false)), .mov (.t 17), []⟩, ⟨14, (some 179), (some (177, false)), .bin .eql (.t 178) (.c (.int .i64 0)), []⟩, ⟨15, (some 180), (some (177, false)), .mov (.t 179), []⟩, ⟨16, (some 181), (some (180, true)), .mov (.t 8), []⟩, ⟨17, (some 182), (some (180, true)), .bin .neq (.t 181) (.c (.int .i64 0)), []⟩, ⟨18, (some 183), (some (180, true)), .mov (.t 182), []⟩, ⟨19, (some 184), (some (183, false)), .mov (.t 7), []⟩, ⟨20, (some 185), (some (183, false)), .mov (.t 11), []⟩, ⟨21, (some 186), (some (183, false)), .bin .neq (.t 184) (.t 185), []⟩, ⟨22, (some 187), (some (180, true)), .pick (.t 183) (.c (.bool true)) (.t 186), []⟩, ⟨23, (some 188), (some (177, false)), .pick (.t 180) (.t 187) (.c (.bool false)), []⟩, ⟨24, (some 189), none, .pick (.t 177) (.c (.bool true)) (.t 188), []⟩, ⟨25, (some 190), none, .mov (.t 189), []⟩, ⟨26, (some 191), (some (190, false)), .mov (.t 17), []⟩, ⟨27, (some 192), (some (190, false)), .bin .gtr (.t 191) (.c (.int .i64 0)), []⟩, ⟨28, (some 193), (some (190, false)), .mov (.t 192), []⟩, ⟨29, (some 194), (some (193, true)), .mov (.t 8), []⟩, ⟨30, (some 195), (some (193, true)), .bin .neq (.t 194) (.c (.int .i64 161)), []⟩, ⟨31, (some 196), (some (190, false)), .pick (.t 193) (.t 195) (.c (.bool false)), []⟩, ⟨32, (some 197), none, .pick (.t 190) (.c (.bool true)) (.t 196), []⟩]) (.ite (.t 197) (.seq (.ops [⟨0, (some 2), none, .mov (.c (.bool false)), []⟩]) .ret) .skip)))) .skip)) (.seq (.seq (.ops [⟨0, (some 198), none, .fad 2 (.t 1), []⟩, ⟨1, (some 199), none, .ld (.t 198), []⟩, ⟨2, (some 200), none, .bin .lss (.t 199) (.c (.int .i64 1)), []⟩, ⟨3, (some 201), none, .mov (.t 200), []⟩, ⟨4, (some 202), (some (201, false)), .fad 2 (.t 1), []⟩, ⟨5, (some 203), (some (201, false)), .ld (.t 202), []⟩, ⟨6, (some 204), (some (201, false)), .bin .gtr (.t 203) (.c (.int .i64 70000)), []⟩, ⟨7, (some 205), none, .pick (.t 201) (.c (.bool true)) (.t 204), []⟩]) (.ite (.t 205) (.seq (.ops [⟨0, (some 206), none, .mov (.t 8), []⟩, ⟨1, (some 207), none, .bin .neq (.t 206) (.c (.int .i64 0)), []⟩, ⟨2, (some 208), none, .mov (.t 207), []⟩, ⟨3, (some 209), (some (208, true)), .mov (.t 13), []⟩, ⟨4, (some 210), (some (208, true)), .bin .neq (.t 209) (.c (.int .i64 0)), []⟩, ⟨5, (some 211), none, .pick (.t 208) (.t 210) (.c (.bool false)), []⟩, ⟨6, (some 2), none, .mov (.t 211), []⟩]) .ret) .skip)) (.seq (.dops [⟨0, (some 213), none, .mov (.t 3), []⟩, ⟨1, (some 214), none, .fad 2 (.t 1), []⟩, ⟨2, (some 215), none, .ld (.t 214), []⟩, ⟨3, (some 216), none, .fad 3 (.t 1), []⟩, ⟨4, (some 217), none, .ld (.t 216), []⟩, ⟨5, (some 218), none, .fad 5 (.t 1), []⟩, ⟨6, (some 219), none, .ld (.t 218), []⟩, ⟨7, (some 220), none, .fad 2 (.t 1), []⟩, ⟨8, (some 221), none, .ld (.t 220), []⟩, ⟨9, (some 222), none, .mks 27 24 [.slice none 0 0] (.t 221) (.t 221), [2, 4, 6]⟩, ⟨10, (some 223), none, .call (.c (.func (.func 26) #[] #[])) [.t 213, .t 215, .t 217, .t 219, .t 222], []⟩, ⟨11, (some 212), none, .mov (.t 223), []⟩, ⟨12, (some 224), none, .ext (.t 212) 0, []⟩, ⟨13, (some 225), none, .ext (.t 212) 1, []⟩, ⟨14, (some 226), none, .ext (.t 212) 2, []⟩, ⟨15, (some 19), none, .mov (.t 224), []⟩, ⟨16, (some 20), none, .mov (.t 225), []⟩, ⟨17, (some 21), none, .mov (.t 226), []⟩]) (.seq (.ops [⟨0, (some 227), none, .mov (.t 19), []⟩, ⟨1, (some 228), none, .mov (.t 7), []⟩, ⟨2, (some 229), none, .bin .eql (.t 227) (.t 228), []⟩, ⟨3, (some 230), none, .mov (.t 229), []⟩, ⟨4, (some 231), (some (230, true)), .mov (.t 21), []⟩, ⟨5, (some 232), (some (230, true)), .mov (.t 8), []⟩, ⟨6, (some 233), (some (230, true)), .bin .eql (.t 231) (.t 232), []⟩, ⟨7, (some 234), none, .pick (.t 230) (.t 233) (.c (.bool false)), []⟩, ⟨8, (some 235), none, .mov (.t 234), []⟩, ⟨9, (some 236), (some (235, true)), .mov (.t 20), []⟩, ⟨10, (some 237), (some (235, true)), .len (.t 236), []⟩, ⟨11, (some 238), (some (235, true)), .bin .eql (.t 237) (.c (.int .i64 0)), []⟩, ⟨12, (some 239), none, .pick (.t 235) (.t 238) (.c (.bool false)), []⟩, ⟨13, (some 2), none, .mov (.t 239), []⟩]) .ret)))))))))))))))
attribute [irreducible] c_culletlaw16_ShapeTurned
theorem run_culletlaw16_ShapeTurned {args : List Value} {w : World} {K : Value → World → Prop} (hn : args.length ≤ 240) (h : WP Try.prog c_culletlaw16_ShapeTurned (endQ [.t 2] K) (initT args) w) : CallV Try.prog 8 args w K :=
  call_of follows Try.func8 (by kernel_rfl) (by kernel_rfl) hn h
end Go.Proofs.Ytcbjabnnokjnpaa.Fw
namespace Go.Proofs.Ytcbjabnnokjnpaa.Fw
open Go Go.Fw
theorem culletlaw16_ShapeTurned_spec (w : World) (a0 f k m a4 : Int) (s5 s6 s7 : Value) (hs : List Hd) (h : Sl w s5 hs) (hb : hs.length * 24 ≤ 140737488351232) :
    CallV Try.prog 8 [.agg #[.int .i64 a0, .int .i64 f, .int .i64 k, .int .i64 m, .int .i64 a4, s5, s6, s7]] w fun v w' => v = .bool true ∧ RowKit.Below w.heap.size w w' := by
  have dt : ∀ e : Int, decide (e = e) = true := fun e => decide_eq_true rfl
  refine run_culletlaw16_ShapeTurned (by simp) ?_
  simp only [c_culletlaw16_ShapeTurned, WS, List.getElem_cons_zero, List.getElem_cons_succ, Option.isNone_some, Option.isNone_none, List.getD_cons_zero, List.getD_cons_succ, I.at, atL, atO, atP, evp, evs, retV, ↓reduceIte, Nat.reduceEqDiff, reduceCtorEq]
  refine X_box fun b w1 hro hlb hB => ?_
  have hro : Row w1 b [.int .i64 a0, .int .i64 f, .int .i64 k, .int .i64 m, .int .i64 a4, s5, s6, s7] := hro
  have B := hB
  have h := h.up hB
  clear hB hlb
  simp (maxSteps := 1000000) (disch := omega) only [WS, List.getElem_cons_zero, List.getElem_cons_succ, Option.isNone_some, Option.isNone_none, List.getD_cons_zero, List.getD_cons_succ, I.at, atL, atO, atP, evp, evs, retV, ↓reduceIte, Nat.reduceEqDiff, reduceCtorEq, AS]
  refine X_call0 ((culletlaw16_awake_spec w1).mono ?_)
  rintro _ w2 ⟨rfl, hB⟩
  have h := h.up hB
  have hro := hro.up hB
  have B := B.trans (hB.mono B.size)
  clear hB
  simp (maxSteps := 1000000) (disch := omega) only [WS, List.getElem_cons_zero, List.getElem_cons_succ, Option.isNone_some, Option.isNone_none, List.getD_cons_zero, List.getD_cons_succ, I.at, atL, atO, atP, evp, evs, retV, ↓reduceIte, Nat.reduceEqDiff, reduceCtorEq, AS, row8_1 hro, row8_5 hro, h.Xlen]
  refine X_mks (x := hdn) (by simp only [maxBytes]; omega) (by omega) fun bk w3 ob C => ?_
  simp (maxSteps := 1000000) (disch := omega) only [WS, List.getElem_cons_zero, List.getElem_cons_succ, Option.isNone_some, Option.isNone_none, List.getD_cons_zero, List.getD_cons_succ, I.at, atL, atO, atP, evp, evs, retV, ↓reduceIte, Nat.reduceEqDiff, reduceCtorEq, AS]
  refine loop_of (fun t w' => t 1 = .pointer (some ⟨b, 0, none⟩) ∧ t 3 = .int .i64 f ∧ t 4 = .int .i64 (hs.length : Int) ∧ t 5 = bk ∧ RowKit.Below w2.heap.size w2 w' ∧ ∃ (i : Nat) (l : List Hd), t 6 = .int .i64 (i : Int) ∧ i ≤ hs.length ∧ Ow w2.heap.size w' bk l ∧ l.length = hs.length ∧ ∀ j, j < i → l.getD j hdn = hs.getD (hs.length - 1 - j) hdn)
    (fun t _ => hs.length - (toI (t 6)).toNat) ⟨by simp only [WS, List.getElem_cons_zero, List.getElem_cons_succ, Option.isNone_some, Option.isNone_none, List.getD_cons_zero, List.getD_cons_succ, I.at, atL, atO, atP, evp, evs, retV, ↓reduceIte, Nat.reduceEqDiff, reduceCtorEq], by simp only [WS, List.getElem_cons_zero, List.getElem_cons_succ, Option.isNone_some, Option.isNone_none, List.getD_cons_zero, List.getD_cons_succ, I.at, atL, atO, atP, evp, evs, retV, ↓reduceIte, Nat.reduceEqDiff, reduceCtorEq], by simp only [WS, List.getElem_cons_zero, List.getElem_cons_succ, Option.isNone_some, Option.isNone_none, List.getD_cons_zero, List.getD_cons_succ, I.at, atL, atO, atP, evp, evs, retV, ↓reduceIte, Nat.reduceEqDiff, reduceCtorEq], by simp only [WS, List.getElem_cons_zero, List.getElem_cons_succ, Option.isNone_some, Option.isNone_none, List.getD_cons_zero, List.getD_cons_succ, I.at, atL, atO, atP, evp, evs, retV, ↓reduceIte, Nat.reduceEqDiff, reduceCtorEq], C, 0, _, rfl, by omega, ob, List.length_replicate .., fun j hj => by omega⟩ ?_
  clear C ob
  rintro t w4 ⟨t1, t3, t4, t5, C, i, l, t6, hi, ob, ll, hl⟩
  by_cases hlt : i < hs.length
  · have h4 := h.up C
    have hro4 := hro.up C
    have hj : hs.length - 1 - i < hs.length := by omega
    have il : i < l.length := by omega
    simp (maxSteps := 1000000) (disch := omega) only [WS, List.getElem_cons_zero, List.getElem_cons_succ, Option.isNone_some, Option.isNone_none, List.getD_cons_zero, List.getD_cons_succ, I.at, atL, atO, atP, evp, evs, retV, ↓reduceIte, Nat.reduceEqDiff, reduceCtorEq, AS, t1, t3, t4, t5, t6, row8_5 hro4, show (hs.length : Int) - 1 - (i : Int) = ((hs.length - 1 - i : Nat) : Int) from by omega, h4.Xix hj, h4.Xld hj, ob.sl.Xix il]
    refine Ow.Xst ob il hs[hs.length - 1 - i] fun w5 ob5 hg => ?_
    simp (maxSteps := 1000000) (disch := omega) only [WS, List.getElem_cons_zero, List.getElem_cons_succ, Option.isNone_some, Option.isNone_none, List.getD_cons_zero, List.getD_cons_succ, I.at, atL, atO, atP, evp, evs, retV, ↓reduceIte, Nat.reduceEqDiff, reduceCtorEq, AS, t1, t3, t4, t5, t6]
    refine ⟨⟨C.grown hg C.size fun b hb => (ob.blk b hb).1, i + 1, _, rfl, by omega, ob5, by rw [List.length_set]; exact ll, fun j hj2 => ?_⟩, by omega⟩
    by_cases hji : j = i
    · rw [hji, List.getD_eq_getElem?_getD, List.getElem?_set_self il, List.getD_eq_getElem?_getD, List.getElem?_eq_getElem hj]
    · rw [List.getD_eq_getElem?_getD, List.getElem?_set_ne (by omega), ← List.getD_eq_getElem?_getD]; exact hl j (by omega)
  obtain rfl : i = hs.length := by omega
  have hrv : ∀ j, j < hs.length → hln l j = hln hs (hs.length - 1 - j) := fun j hj => by unfold hln; rw [hl j hj]
  have hzn : (zis (hln l) hs.length).length = (zis (hln hs) hs.length).length := by
    have hzr := zis_rev hrv hs.length (Nat.le_refl _)
    rw [Nat.sub_self] at hzr
    simpa [zis] using hzr
  have B := B.trans (C.mono B.size)
  have h := h.up C
  have hro := hro.up C
  have ob := ob.sl
  clear C
  simp (maxSteps := 1000000) (disch := omega) only [WS, List.getElem_cons_zero, List.getElem_cons_succ, Option.isNone_some, Option.isNone_none, List.getD_cons_zero, List.getD_cons_succ, I.at, atL, atO, atP, evp, evs, retV, ↓reduceIte, Nat.reduceEqDiff, reduceCtorEq, AS, t1, t3, t4, t5, t6, row8_2 hro, row8_3 hro, row8_5 hro]
  refine X_call0 ((shape_Whole_spec w4 f k m s5 hs h).mono ?_)
  rintro _ w5 ⟨hB, len1, ev1, c1, rfl⟩
  have h := h.up hB
  have hro := hro.up hB
  have ob := ob.up hB
  have B := B.trans (hB.mono B.size)
  clear hB
  simp (maxSteps := 1000000) (disch := omega) only [WS, List.getElem_cons_zero, List.getElem_cons_succ, Option.isNone_some, Option.isNone_none, List.getD_cons_zero, List.getD_cons_succ, I.at, atL, atO, atP, evp, evs, retV, ↓reduceIte, Nat.reduceEqDiff, reduceCtorEq, AS, t1, t3, t4, t5, row8_2 hro, row8_3 hro]
  refine X_call0 ((shape_Whole_spec w5 f k m bk l ob).mono ?_)
  rintro _ w6 ⟨hB, len2, ev2, c2, rfl⟩
  have h := h.up hB
  have hro := hro.up hB
  have ob := ob.up hB
  have B := B.trans (hB.mono B.size)
  clear hB
  rw [ll] at c2 ⊢
  have hW : whl f k m hs.length (zis (hln l) hs.length).length len2 ev2 = whl f k m hs.length (zis (hln hs) hs.length).length len1 ev1 := by
    rw [hzn]; exact (whl_eq fun h0 => let q := lns_rev hrv (c1 h0) (c2 h0); ⟨q.1, q.2.1⟩).symm
  rw [hW]
  generalize hWd : whl f k m hs.length (zis (hln hs) hs.length).length len1 ev1 = W1 at hW ⊢
  simp (maxSteps := 1000000) (disch := omega) only [WS, List.getElem_cons_zero, List.getElem_cons_succ, Option.isNone_some, Option.isNone_none, List.getD_cons_zero, List.getD_cons_succ, I.at, atL, atO, atP, evp, evs, retV, ↓reduceIte, Nat.reduceEqDiff, reduceCtorEq, AS, t1, t3, t4, t5, dt, row8_2 hro, row8_3 hro, row8_5 hro]
  refine X_call0 ((shape_Partial_spec w6 f k m s5 hs h).mono ?_)
  rintro _ w7 ⟨hB, len3, ev3, z3, c3, rfl, o3⟩
  have h := h.up hB
  have hro := hro.up hB
  have ob := ob.up hB
  have B := B.trans (hB.mono B.size)
  clear hB
  have o3 := o3.sl
  simp (maxSteps := 1000000) (disch := omega) only [WS, List.getElem_cons_zero, List.getElem_cons_succ, Option.isNone_some, Option.isNone_none, List.getD_cons_zero, List.getD_cons_succ, I.at, atL, atO, atP, evp, evs, retV, ↓reduceIte, Nat.reduceEqDiff, reduceCtorEq, AS, t1, t3, t4, t5, row8_2 hro, row8_3 hro]
  refine X_call0 ((shape_Partial_spec w7 f k m bk l ob).mono ?_)
  rintro _ w8 ⟨hB, len4, ev4, z4, c4, rfl, o4⟩
  have o4 := o4.sl
  have h := h.up hB
  have hro := hro.up hB
  have ob := ob.up hB
  have o3 := o3.up hB
  have B := B.trans (hB.mono B.size)
  clear hB
  rw [ll] at c4 o4 ⊢
  have hP : prt f k m hs.length (zis (hln l) hs.length).length len4 ev4 = prt f k m hs.length (zis (hln hs) hs.length).length len3 ev3 := by
    rw [hzn]; exact (prt_eq fun h0 => lns_rev hrv (c3 h0) (c4 h0)).symm
  rw [hP] at o4 ⊢
  by_cases hP0 : (prt f k m hs.length (zis (hln hs) hs.length).length len3 ev3).2 = 0
  · rw [if_pos hP0] at o3 o4
    obtain ⟨h0, hl0, rfl, hod, hzm, hp1⟩ := prt_ok hP0
    have hL := c3 h0
    obtain ⟨q1, q2, -⟩ := lns_rev hrv (c1 h0) (c2 h0)
    obtain ⟨q3, q4, -⟩ := lns_rev hrv hL (c2 h0)
    obtain rfl : ev1 = true := q1.trans q3.symm
    obtain rfl : len1 = len3 := (q2 rfl).trans (q4 rfl).symm
    have hcn := cnt_ok h0
    simp (maxSteps := 1000000) (disch := omega) only [WS, List.getElem_cons_zero, List.getElem_cons_succ, Option.isNone_some, Option.isNone_none, List.getD_cons_zero, List.getD_cons_succ, I.at, atL, atO, atP, evp, evs, retV, ↓reduceIte, Nat.reduceEqDiff, reduceCtorEq, AS, t1, t3, t4, t5, dt, hp1, hP0, o3.Xlen, o4.Xlen, hzn]
    refine loop_of (fun t w' => w' = w8 ∧ t 1 = .pointer (some ⟨b, 0, none⟩) ∧ t 3 = .int .i64 f ∧ t 4 = .int .i64 (hs.length : Int) ∧ t 7 = .int .i64 W1.1 ∧ t 8 = .int .i64 W1.2 ∧ t 11 = .int .i64 (len1 : Int) ∧ t 12 = z3 ∧ t 13 = .int .i64 0 ∧ t 15 = z4 ∧ ∃ i : Nat, t 18 = .int .i64 (i : Int) ∧ i ≤ hs.length ∧ t 17 = .int .i64 ((zis (hln hs) i).length : Int))
      (fun t _ => hs.length - (toI (t 18)).toNat) ⟨rfl, by simp only [lZ11, t1]; simp, by simp only [lZ11, t3]; simp, by simp only [lZ11, t4]; simp, by simp only [WS, List.getElem_cons_zero, List.getElem_cons_succ, Option.isNone_some, Option.isNone_none, List.getD_cons_zero, List.getD_cons_succ, I.at, atL, atO, atP, evp, evs, retV, ↓reduceIte, Nat.reduceEqDiff, reduceCtorEq], by simp only [WS, List.getElem_cons_zero, List.getElem_cons_succ, Option.isNone_some, Option.isNone_none, List.getD_cons_zero, List.getD_cons_succ, I.at, atL, atO, atP, evp, evs, retV, ↓reduceIte, Nat.reduceEqDiff, reduceCtorEq], by simp only [WS, List.getElem_cons_zero, List.getElem_cons_succ, Option.isNone_some, Option.isNone_none, List.getD_cons_zero, List.getD_cons_succ, I.at, atL, atO, atP, evp, evs, retV, ↓reduceIte, Nat.reduceEqDiff, reduceCtorEq], by simp only [WS, List.getElem_cons_zero, List.getElem_cons_succ, Option.isNone_some, Option.isNone_none, List.getD_cons_zero, List.getD_cons_succ, I.at, atL, atO, atP, evp, evs, retV, ↓reduceIte, Nat.reduceEqDiff, reduceCtorEq], by simp only [WS, List.getElem_cons_zero, List.getElem_cons_succ, Option.isNone_some, Option.isNone_none, List.getD_cons_zero, List.getD_cons_succ, I.at, atL, atO, atP, evp, evs, retV, ↓reduceIte, Nat.reduceEqDiff, reduceCtorEq], by simp only [WS, List.getElem_cons_zero, List.getElem_cons_succ, Option.isNone_some, Option.isNone_none, List.getD_cons_zero, List.getD_cons_succ, I.at, atL, atO, atP, evp, evs, retV, ↓reduceIte, Nat.reduceEqDiff, reduceCtorEq], 0, rfl, by omega, rfl⟩ ?_
    clear t1 t3 t4 t5 t6
    rintro t w9 ⟨rfl, t1, t3, t4, t7, t8, t11, t12, t13, t15, i, t18, hi, t17⟩
    by_cases hlt : i < hs.length
    · have hx := hln_get hs hlt
      by_cases hz : hln hs i = 0
      · have hz' : hs[i].n = 0 := by rw [← hx]; exact hz
        obtain ⟨a1, e1⟩ := List.getElem?_eq_some_iff.1 (zis_at (hln hs) hs.length i hlt hz)
        have hz2 : hln l (hs.length - 1 - i) = 0 := by rw [hrv _ (by omega), show hs.length - 1 - (hs.length - 1 - i) = i by omega]; exact hz
        have q2 := zis_at (hln l) hs.length (hs.length - 1 - i) (by omega) hz2
        have r2 := zis_rev hrv (hs.length - 1 - i) (by omega)
        rw [show hs.length - (hs.length - 1 - i) = i + 1 by omega, zis_succ, if_pos hz, List.length_append, List.length_singleton] at r2
        have r3 : (zis (hln l) (hs.length - 1 - i)).length = (zis (hln hs) hs.length).length - 1 - (zis (hln hs) i).length := by omega
        rw [r3] at q2
        obtain ⟨a2, e2⟩ := List.getElem?_eq_some_iff.1 q2
        simp (maxSteps := 1000000) (disch := omega) only [WS, List.getElem_cons_zero, List.getElem_cons_succ, Option.isNone_some, Option.isNone_none, List.getD_cons_zero, List.getD_cons_succ, I.at, atL, atO, atP, evp, evs, retV, ↓reduceIte, Nat.reduceEqDiff, reduceCtorEq, AS, t1, t3, t4, t7, t8, t11, t12, t13, t15, t17, t18, row8_5 hro, h.Xix hlt, h.Xld hlt, cell_hd, X_lenS, hz', show decide ((0 : Int) < ((0 : Nat) : Int)) = false from rfl, o3.Xlen, o3.Xix a1, o3.Xld a1, cell_int, e1, dt, o4.Xlen, hzn, show ((zis (hln hs) hs.length).length : Int) - 1 - ((zis (hln hs) i).length : Int) = (((zis (hln hs) hs.length).length - 1 - (zis (hln hs) i).length : Nat) : Int) from by omega, o4.Xix a2, o4.Xld a2, e2, show (hs.length : Int) - 1 - (i : Int) = ((hs.length - 1 - i : Nat) : Int) from by omega]
        refine ⟨⟨i + 1, rfl, by omega, ?_⟩, by omega⟩
        rw [zis_succ, if_pos hz, List.length_append]; rfl
      · have hx2 : hs[i].n = len1 := by
          rcases hL.e.1 rfl i hlt with h2 | h2
          · exact absurd h2 hz
          · rw [← hx]; exact h2
        simp (maxSteps := 1000000) (disch := omega) only [WS, List.getElem_cons_zero, List.getElem_cons_succ, Option.isNone_some, Option.isNone_none, List.getD_cons_zero, List.getD_cons_succ, I.at, atL, atO, atP, evp, evs, retV, ↓reduceIte, Nat.reduceEqDiff, reduceCtorEq, AS, t1, t3, t4, t7, t8, t11, t12, t13, t15, t17, t18, row8_5 hro, h.Xix hlt, h.Xld hlt, cell_hd, X_lenS, hx2, dt]
        refine ⟨⟨i + 1, rfl, by omega, ?_⟩, by omega⟩
        rw [zis_succ, if_neg hz]
    obtain rfl : i = hs.length := by omega
    by_cases hz0 : (zis (hln hs) hs.length).length = 0
    · have hW1 : W1 = ((len1 : Int), 0) := by
        rw [← hWd]; unfold whl; rw [if_neg (fun e => e h0), if_neg (fun e => e hz0), if_neg (by simp), if_neg (by simp [hod])]
      simp (maxSteps := 1000000) (disch := omega) only [WS, List.getElem_cons_zero, List.getElem_cons_succ, Option.isNone_some, Option.isNone_none, List.getD_cons_zero, List.getD_cons_succ, I.at, atL, atO, atP, evp, evs, retV, ↓reduceIte, Nat.reduceEqDiff, reduceCtorEq, AS, t1, t3, t4, t7, t8, t11, t12, t13, t15, t17, t18, dt, o3.Xlen, row8_2 hro, hW1]
      obtain ⟨K, rfl⟩ : ∃ K : Nat, k = (K : Int) := ⟨k.toNat, by omega⟩
      have hrod := hro.drew
      refine WP_dops ?_
      simp (maxSteps := 1000000) (disch := omega) only [ES, List.mem_cons, List.not_mem_nil, implies_true, forall_const, WS, List.getElem_cons_zero, List.getElem_cons_succ, Option.isNone_some, Option.isNone_none, List.getD_cons_zero, List.getD_cons_succ, I.at, atL, atO, atP, evp, evs, retV, ↓reduceIte, Nat.reduceEqDiff, reduceCtorEq, AS, t1, t3, t7, t8, hW1, row8e_2 hrod, row8e_3 hrod, row8e_5 hrod]
      refine E_mks (x := hdn) (by simp only [maxBytes]; omega) (by omega) fun g w10 og hB => ?_
      have hrog := hrod.up hB
      have hg := h.drew.up hB
      have B := B.trans (((bel_drew w9).trans hB).mono B.size)
      simp (maxSteps := 1000000) (disch := omega) only [ES, List.mem_cons, List.not_mem_nil, implies_true, forall_const, WS, List.getElem_cons_zero, List.getElem_cons_succ, Option.isNone_some, Option.isNone_none, List.getD_cons_zero, List.getD_cons_succ, I.at, atL, atO, atP, evp, evs, retV, ↓reduceIte, Nat.reduceEqDiff, reduceCtorEq, AS, t1, t3, t7, t8, hW1, row8s_2 hrog, row8s_3 hrog, row8s_5 hrog]
      refine E_call0 ((shape_Fresh_spec w10 f m K s5 g hs hg og.sl (by omega)).mono ?_)
      rintro _ w11 ⟨hB2, len5, ev5, c5, rfl⟩
      have hF : whl f K m hs.length (zis (hln hs) hs.length).length len5 ev5 = W1 := by
        rw [whl_eq (fun h0 => let q := lns_rev hrv (c5 h0) (c2 h0); ⟨q.1, q.2.1⟩), ← hzn, hW]
      rw [hF]
      have B := B.trans (hB2.mono B.size)
      simp (maxSteps := 1000000) (disch := omega) only [ES, List.mem_cons, List.not_mem_nil, implies_true, forall_const, WS, List.getElem_cons_zero, List.getElem_cons_succ, Option.isNone_some, Option.isNone_none, List.getD_cons_zero, List.getD_cons_succ, I.at, atL, atO, atP, evp, evs, retV, ↓reduceIte, Nat.reduceEqDiff, reduceCtorEq, AS, t1, t3, t7, t8, hW1, dt]
      simp (maxSteps := 1000000) (disch := omega) only [WS, List.getElem_cons_zero, List.getElem_cons_succ, Option.isNone_some, Option.isNone_none, List.getD_cons_zero, List.getD_cons_succ, I.at, atL, atO, atP, evp, evs, retV, ↓reduceIte, Nat.reduceEqDiff, reduceCtorEq, AS, X_lenS, dt, show decide (((0 : Nat) : Int) = 0) = true from rfl]
      exact B
    · have hW1 : W1 = (0, 161) := by
        rw [← hWd]; unfold whl; rw [if_neg (fun e => e h0), if_pos hz0]
      simp (maxSteps := 1000000) (disch := omega) only [WS, List.getElem_cons_zero, List.getElem_cons_succ, Option.isNone_some, Option.isNone_none, List.getD_cons_zero, List.getD_cons_succ, I.at, atL, atO, atP, evp, evs, retV, ↓reduceIte, Nat.reduceEqDiff, reduceCtorEq, AS, t1, t3, t4, t7, t8, t11, t12, t13, t15, t17, t18, dt, o3.Xlen, row8_2 hro, hW1]
      obtain ⟨K, rfl⟩ : ∃ K : Nat, k = (K : Int) := ⟨k.toNat, by omega⟩
      have hrod := hro.drew
      refine WP_dops ?_
      simp (maxSteps := 1000000) (disch := omega) only [ES, List.mem_cons, List.not_mem_nil, implies_true, forall_const, WS, List.getElem_cons_zero, List.getElem_cons_succ, Option.isNone_some, Option.isNone_none, List.getD_cons_zero, List.getD_cons_succ, I.at, atL, atO, atP, evp, evs, retV, ↓reduceIte, Nat.reduceEqDiff, reduceCtorEq, AS, t1, t3, t7, t8, hW1, row8e_2 hrod, row8e_3 hrod, row8e_5 hrod]
      refine E_mks (x := hdn) (by simp only [maxBytes]; omega) (by omega) fun g w10 og hB => ?_
      have hrog := hrod.up hB
      have hg := h.drew.up hB
      have B := B.trans (((bel_drew w9).trans hB).mono B.size)
      simp (maxSteps := 1000000) (disch := omega) only [ES, List.mem_cons, List.not_mem_nil, implies_true, forall_const, WS, List.getElem_cons_zero, List.getElem_cons_succ, Option.isNone_some, Option.isNone_none, List.getD_cons_zero, List.getD_cons_succ, I.at, atL, atO, atP, evp, evs, retV, ↓reduceIte, Nat.reduceEqDiff, reduceCtorEq, AS, t1, t3, t7, t8, hW1, row8s_2 hrog, row8s_3 hrog, row8s_5 hrog]
      refine E_call0 ((shape_Fresh_spec w10 f m K s5 g hs hg og.sl (by omega)).mono ?_)
      rintro _ w11 ⟨hB2, len5, ev5, c5, rfl⟩
      have hF : whl f K m hs.length (zis (hln hs) hs.length).length len5 ev5 = W1 := by
        rw [whl_eq (fun h0 => let q := lns_rev hrv (c5 h0) (c2 h0); ⟨q.1, q.2.1⟩), ← hzn, hW]
      rw [hF]
      have B := B.trans (hB2.mono B.size)
      simp (maxSteps := 1000000) (disch := omega) only [ES, List.mem_cons, List.not_mem_nil, implies_true, forall_const, WS, List.getElem_cons_zero, List.getElem_cons_succ, Option.isNone_some, Option.isNone_none, List.getD_cons_zero, List.getD_cons_succ, I.at, atL, atO, atP, evp, evs, retV, ↓reduceIte, Nat.reduceEqDiff, reduceCtorEq, AS, t1, t3, t7, t8, hW1, dt]
      simp (maxSteps := 1000000) (disch := omega) only [WS, List.getElem_cons_zero, List.getElem_cons_succ, Option.isNone_some, Option.isNone_none, List.getD_cons_zero, List.getD_cons_succ, I.at, atL, atO, atP, evp, evs, retV, ↓reduceIte, Nat.reduceEqDiff, reduceCtorEq, AS, X_lenS, dt, show decide (((0 : Nat) : Int) = 0) = true from rfl]
      exact B
  · rw [if_neg hP0] at o3 o4
    simp (maxSteps := 1000000) (disch := omega) only [WS, List.getElem_cons_zero, List.getElem_cons_succ, Option.isNone_some, Option.isNone_none, List.getD_cons_zero, List.getD_cons_succ, I.at, atL, atO, atP, evp, evs, retV, ↓reduceIte, Nat.reduceEqDiff, reduceCtorEq, AS, t1, t3, t4, t5, dt, o3.Xlen, o4.Xlen, List.length_nil, row8_2 hro]
    by_cases hk : k < 1 ∨ 70000 < k
    · have hc : cnt f k m hs.length ≠ 0 := fun e => by have := cnt_ok e; omega
      have hW2 : W1.2 ≠ 0 := by rw [← hWd]; unfold whl; rw [if_pos hc]; exact hc
      rcases hk with h1 | h1
      · simp (maxSteps := 1000000) (disch := omega) only [WS, List.getElem_cons_zero, List.getElem_cons_succ, Option.isNone_some, Option.isNone_none, List.getD_cons_zero, List.getD_cons_succ, I.at, atL, atO, atP, evp, evs, retV, ↓reduceIte, Nat.reduceEqDiff, reduceCtorEq, AS, t1, t3, t4, t5, row8_2 hro]
        exact B
      · simp (maxSteps := 1000000) (disch := omega) only [WS, List.getElem_cons_zero, List.getElem_cons_succ, Option.isNone_some, Option.isNone_none, List.getD_cons_zero, List.getD_cons_succ, I.at, atL, atO, atP, evp, evs, retV, ↓reduceIte, Nat.reduceEqDiff, reduceCtorEq, AS, t1, t3, t4, t5, row8_2 hro]
        exact B
    obtain ⟨K, rfl⟩ : ∃ K : Nat, k = (K : Int) := ⟨k.toNat, by omega⟩
    have hrod := hro.drew
    simp (maxSteps := 1000000) (disch := omega) only [WS, List.getElem_cons_zero, List.getElem_cons_succ, Option.isNone_some, Option.isNone_none, List.getD_cons_zero, List.getD_cons_succ, I.at, atL, atO, atP, evp, evs, retV, ↓reduceIte, Nat.reduceEqDiff, reduceCtorEq, AS, row8_2 hro]
    refine WP_dops ?_
    simp (maxSteps := 1000000) (disch := omega) only [ES, List.mem_cons, List.not_mem_nil, implies_true, forall_const, WS, List.getElem_cons_zero, List.getElem_cons_succ, Option.isNone_some, Option.isNone_none, List.getD_cons_zero, List.getD_cons_succ, I.at, atL, atO, atP, evp, evs, retV, ↓reduceIte, Nat.reduceEqDiff, reduceCtorEq, AS, t1, t3, t4, t5, row8e_2 hrod, row8e_3 hrod, row8e_5 hrod]
    refine E_mks (x := hdn) (by simp only [maxBytes]; omega) (by omega) fun g w10 og hB => ?_
    have hrog := hrod.up hB
    have hg := h.drew.up hB
    have B := B.trans (((bel_drew w8).trans hB).mono B.size)
    simp (maxSteps := 1000000) (disch := omega) only [ES, List.mem_cons, List.not_mem_nil, implies_true, forall_const, WS, List.getElem_cons_zero, List.getElem_cons_succ, Option.isNone_some, Option.isNone_none, List.getD_cons_zero, List.getD_cons_succ, I.at, atL, atO, atP, evp, evs, retV, ↓reduceIte, Nat.reduceEqDiff, reduceCtorEq, AS, t1, t3, t4, t5, row8s_2 hrog, row8s_3 hrog, row8s_5 hrog]
    refine E_call0 ((shape_Fresh_spec w10 f m K s5 g hs hg og.sl (by omega)).mono ?_)
    rintro _ w11 ⟨hB2, len5, ev5, c5, rfl⟩
    have hF : whl f K m hs.length (zis (hln hs) hs.length).length len5 ev5 = W1 := by
      rw [whl_eq (fun h0 => let q := lns_rev hrv (c5 h0) (c2 h0); ⟨q.1, q.2.1⟩), ← hzn, hW]
    rw [hF]
    have B := B.trans (hB2.mono B.size)
    simp (maxSteps := 1000000) (disch := omega) only [ES, List.mem_cons, List.not_mem_nil, implies_true, forall_const, WS, List.getElem_cons_zero, List.getElem_cons_succ, Option.isNone_some, Option.isNone_none, List.getD_cons_zero, List.getD_cons_succ, I.at, atL, atO, atP, evp, evs, retV, ↓reduceIte, Nat.reduceEqDiff, reduceCtorEq, AS, t1, t3, t4, t5, dt]
    simp (maxSteps := 1000000) (disch := omega) only [WS, List.getElem_cons_zero, List.getElem_cons_succ, Option.isNone_some, Option.isNone_none, List.getD_cons_zero, List.getD_cons_succ, I.at, atL, atO, atP, evp, evs, retV, ↓reduceIte, Nat.reduceEqDiff, reduceCtorEq, AS, X_lenS, dt, show decide (((0 : Nat) : Int) = 0) = true from rfl]
    exact B
end Go.Proofs.Ytcbjabnnokjnpaa.Fw
