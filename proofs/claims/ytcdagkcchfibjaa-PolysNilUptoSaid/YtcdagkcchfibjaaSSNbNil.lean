import Derived.Test.YtcdagkcchfibjaaProg
import Derived.Test.YtcdagkcchfibjaaFwTNil
import Derived.Test.YtcdagkcchfibjaaSSNNil
set_option linter.all false
set_option linter.unusedVariables false
set_option linter.unusedSimpArgs false
set_option maxRecDepth 100000
set_option maxHeartbeats 1000000
namespace Go.Proofs.Ytcdagkcchfibjaa.Fw
open Go Go.Fw Go.Proofs
attribute [local irreducible] stepI
def c_culletlaw04_PolysNil : C := .seq (.ops [⟨0, (some 6), none, .mov (.c (.bool false)), []⟩]) (.seq (.seq (.ops [⟨0, (some 19), none, .call (.c (.func (.func 12) #[] #[])) [], []⟩, ⟨1, (some 20), none, .call (.c (.func (.func 23) #[] #[])) [.t 19], []⟩, ⟨2, (some 21), none, .un .not (.t 20), []⟩]) (.ite (.t 21) (.seq (.ops [⟨0, (some 6), none, .mov (.c (.bool false)), []⟩]) .ret) .skip)) (.seq (.ops [⟨0, (some 7), none, .mov (.c (.pointer none)), []⟩]) (.seq (.ops [⟨0, (some 8), none, .mov (.c (.pointer none)), []⟩]) (.seq (.ops [⟨0, (some 22), none, .mov (.t 8), []⟩, ⟨1, (some 23), none, .mov (.t 7), []⟩, ⟨2, (some 24), none, .bld [.pointer none, .pointer none] [(0, (1, .t 22)), (1, (1, .t 23))], []⟩, ⟨3, (some 9), none, .alloc 25 [.pointer none, .pointer none], []⟩, ⟨4, none, none, .stn 2 (.t 9) (.t 24), []⟩]) (.seq (.ops [⟨0, (some 10), none, .mov (.c (.bool true)), []⟩]) (.seq (.seq (.ops [⟨0, (some 11), none, .mov (.c (.int .i64 0)), []⟩]) (.block 0 (.loop (.seq (.seq (.ops [⟨0, (some 25), none, .mov (.t 11), []⟩, ⟨1, (some 26), none, .bin .lss (.t 25) (.c (.int .i64 2)), []⟩]) (.ite (.t 26) .skip (.exit 0))) (.seq (.block 1 (.seq (.ops [⟨0, (some 29), none, .mov (.t 11), []⟩, ⟨1, (some 30), none, .bin .eql (.t 29) (.c (.int .i64 1)), []⟩, ⟨2, (some 12), none, .mov (.t 30), []⟩]) (.seq (.ops [⟨0, (some 32), none, .ldn 2 (.t 9), []⟩, ⟨1, (some 33), none, .mov (.t 12), []⟩, ⟨2, (some 34), none, .mov (.t 0), []⟩, ⟨3, (some 35), none, .mov (.t 1), []⟩, ⟨4, (some 36), none, .call (.c (.func (.func 13) #[] #[])) [.t 32, .t 33, .t 34, .t 35], []⟩, ⟨5, (some 31), none, .mov (.t 36), []⟩, ⟨6, (some 37), none, .ext (.t 31) 0, []⟩, ⟨7, (some 38), none, .ext (.t 31) 1, []⟩, ⟨8, (some 13), none, .mov (.t 37), []⟩, ⟨9, (some 14), none, .mov (.t 38), []⟩]) (.seq (.ops [⟨0, (some 39), none, .mov (.t 10), []⟩, ⟨1, (some 40), none, .mov (.t 39), []⟩, ⟨2, (some 41), (some (40, true)), .mov (.t 14), []⟩, ⟨3, (some 42), (some (40, true)), .bin .eql (.t 41) (.c (.int .i64 1)), []⟩, ⟨4, (some 43), none, .pick (.t 40) (.t 42) (.c (.bool false)), []⟩, ⟨5, (some 44), none, .mov (.t 43), []⟩, ⟨6, (some 45), (some (44, true)), .mov (.t 13), []⟩, ⟨7, (some 46), (some (44, true)), .len (.t 45), []⟩, ⟨8, (some 47), (some (44, true)), .bin .eql (.t 46) (.c (.int .i64 0)), []⟩, ⟨9, (some 48), none, .pick (.t 44) (.t 47) (.c (.bool false)), []⟩, ⟨10, (some 10), none, .mov (.t 48), []⟩]) (.seq (.ops [⟨0, (some 50), none, .ldn 2 (.t 9), []⟩, ⟨1, (some 51), none, .mov (.t 12), []⟩, ⟨2, (some 52), none, .mov (.t 0), []⟩, ⟨3, (some 53), none, .mov (.t 1), []⟩, ⟨4, (some 54), none, .call (.c (.func (.func 26) #[] #[])) [.t 50, .t 51, .t 52, .t 53], []⟩, ⟨5, (some 49), none, .mov (.t 54), []⟩, ⟨6, (some 55), none, .ext (.t 49) 0, []⟩, ⟨7, (some 56), none, .ext (.t 49) 1, []⟩, ⟨8, (some 57), none, .ext (.t 49) 2, []⟩, ⟨9, (some 15), none, .mov (.t 55), []⟩, ⟨10, (some 16), none, .mov (.t 56), []⟩, ⟨11, (some 14), none, .mov (.t 57), []⟩]) (.seq (.ops [⟨0, (some 58), none, .mov (.t 10), []⟩, ⟨1, (some 59), none, .mov (.t 58), []⟩, ⟨2, (some 60), (some (59, true)), .mov (.t 14), []⟩, ⟨3, (some 61), (some (59, true)), .bin .eql (.t 60) (.c (.int .i64 1)), []⟩, ⟨4, (some 62), none, .pick (.t 59) (.t 61) (.c (.bool false)), []⟩, ⟨5, (some 63), none, .mov (.t 62), []⟩, ⟨6, (some 64), (some (63, true)), .mov (.t 15), []⟩, ⟨7, (some 65), (some (63, true)), .len (.t 64), []⟩, ⟨8, (some 66), (some (63, true)), .bin .eql (.t 65) (.c (.int .i64 0)), []⟩, ⟨9, (some 67), none, .pick (.t 63) (.t 66) (.c (.bool false)), []⟩, ⟨10, (some 68), none, .mov (.t 67), []⟩, ⟨11, (some 69), (some (68, true)), .mov (.t 16), []⟩, ⟨12, (some 70), (some (68, true)), .len (.t 69), []⟩, ⟨13, (some 71), (some (68, true)), .bin .eql (.t 70) (.c (.int .i64 0)), []⟩, ⟨14, (some 72), none, .pick (.t 68) (.t 71) (.c (.bool false)), []⟩, ⟨15, (some 10), none, .mov (.t 72), []⟩]) (.seq (.ops [⟨0, (some 74), none, .ldn 2 (.t 9), []⟩, ⟨1, (some 75), none, .mov (.t 12), []⟩, ⟨2, (some 76), none, .mov (.t 0), []⟩, ⟨3, (some 77), none, .mov (.t 1), []⟩, ⟨4, (some 78), none, .call (.c (.func (.func 29) #[] #[])) [.t 74, .t 75, .t 76, .t 77], []⟩, ⟨5, (some 73), none, .mov (.t 78), []⟩, ⟨6, (some 79), none, .ext (.t 73) 0, []⟩, ⟨7, (some 80), none, .ext (.t 73) 1, []⟩, ⟨8, (some 13), none, .mov (.t 79), []⟩, ⟨9, (some 14), none, .mov (.t 80), []⟩]) (.seq (.ops [⟨0, (some 81), none, .mov (.t 10), []⟩, ⟨1, (some 82), none, .mov (.t 81), []⟩, ⟨2, (some 83), (some (82, true)), .mov (.t 14), []⟩, ⟨3, (some 84), (some (82, true)), .bin .eql (.t 83) (.c (.int .i64 1)), []⟩, ⟨4, (some 85), none, .pick (.t 82) (.t 84) (.c (.bool false)), []⟩, ⟨5, (some 86), none, .mov (.t 85), []⟩, ⟨6, (some 87), (some (86, true)), .mov (.t 13), []⟩, ⟨7, (some 88), (some (86, true)), .len (.t 87), []⟩, ⟨8, (some 89), (some (86, true)), .bin .eql (.t 88) (.c (.int .i64 0)), []⟩, ⟨9, (some 90), none, .pick (.t 86) (.t 89) (.c (.bool false)), []⟩, ⟨10, (some 10), none, .mov (.t 90), []⟩]) (.seq (.ops [⟨0, (some 92), none, .ldn 2 (.t 9), []⟩, ⟨1, (some 93), none, .mov (.t 12), []⟩, ⟨2, (some 94), none, .mov (.t 0), []⟩, ⟨3, (some 95), none, .call (.c (.func (.func 14) #[] #[])) [.t 92, .t 93, .t 94], []⟩, ⟨4, (some 91), none, .mov (.t 95), []⟩, ⟨5, (some 96), none, .ext (.t 91) 0, []⟩, ⟨6, (some 97), none, .ext (.t 91) 1, []⟩, ⟨7, (some 13), none, .mov (.t 96), []⟩, ⟨8, (some 14), none, .mov (.t 97), []⟩]) (.seq (.ops [⟨0, (some 98), none, .mov (.t 10), []⟩, ⟨1, (some 99), none, .mov (.t 98), []⟩, ⟨2, (some 100), (some (99, true)), .mov (.t 14), []⟩, ⟨3, (some 101), (some (99, true)), .bin .eql (.t 100) (.c (.int .i64 1)), []⟩, ⟨4, (some 102), none, .pick (.t 99) (.t 101) (.c (.bool false)), []⟩, ⟨5, (some 103), none, .mov (.t 102), []⟩, ⟨6, (some 104), (some (103, true)), .mov (.t 13), []⟩, ⟨7, (some 105), (some (103, true)), .len (.t 104), []⟩, ⟨8, (some 106), (some (103, true)), .bin .eql (.t 105) (.c (.int .i64 0)), []⟩, ⟨9, (some 107), none, .pick (.t 103) (.t 106) (.c (.bool false)), []⟩, ⟨10, (some 10), none, .mov (.t 107), []⟩]) (.seq (.ops [⟨0, (some 109), none, .ldn 2 (.t 9), []⟩, ⟨1, (some 110), none, .mov (.t 12), []⟩, ⟨2, (some 111), none, .mov (.t 0), []⟩, ⟨3, (some 112), none, .mov (.t 1), []⟩, ⟨4, (some 113), none, .call (.c (.func (.func 20) #[] #[])) [.t 109, .t 110, .t 111, .t 112], []⟩, ⟨5, (some 108), none, .mov (.t 113), []⟩, ⟨6, (some 114), none, .ext (.t 108) 0, []⟩, ⟨7, (some 115), none, .ext (.t 108) 1, []⟩, ⟨8, (some 13), none, .mov (.t 114), []⟩, ⟨9, (some 14), none, .mov (.t 115), []⟩]) (.seq (.ops [⟨0, (some 116), none, .mov (.t 10), []⟩, ⟨1, (some 117), none, .mov (.t 116), []⟩, ⟨2, (some 118), (some (117, true)), .mov (.t 14), []⟩, ⟨3, (some 119), (some (117, true)), .bin .eql (.t 118) (.c (.int .i64 1)), []⟩, ⟨4, (some 120), none, .pick (.t 117) (.t 119) (.c (.bool false)), []⟩, ⟨5, (some 121), none, .mov (.t 120), []⟩, ⟨6, (some 122), (some (121, true)), .mov (.t 13), []⟩, ⟨7, (some 123), (some (121, true)), .len (.t 122), []⟩, ⟨8, (some 124), (some (121, true)), .bin .eql (.t 123) (.c (.int .i64 0)), []⟩, ⟨9, (some 125), none, .pick (.t 121) (.t 124) (.c (.bool false)), []⟩, ⟨10, (some 10), none, .mov (.t 125), []⟩]) (.seq (.ops [⟨0, (some 127), none, .ldn 2 (.t 9), []⟩, ⟨1, (some 128), none, .mov (.t 12), []⟩, ⟨2, (some 129), none, .mov (.t 0), []⟩, ⟨3, (some 130), none, .mov (.t 1), []⟩, ⟨4, (some 131), none, .mov (.t 2), []⟩, ⟨5, (some 132), none, .call (.c (.func (.func 28) #[] #[])) [.t 127, .t 128, .t 129, .t 130, .t 131], []⟩, ⟨6, (some 126), none, .mov (.t 132), []⟩, ⟨7, (some 133), none, .ext (.t 126) 0, []⟩, ⟨8, (some 134), none, .ext (.t 126) 1, []⟩, ⟨9, (some 135), none, .ext (.t 126) 2, []⟩, ⟨10, (some 136), none, .ext (.t 126) 3, []⟩, ⟨11, (some 13), none, .mov (.t 133), []⟩, ⟨12, (some 17), none, .mov (.t 134), []⟩, ⟨13, (some 18), none, .mov (.t 135), []⟩, ⟨14, (some 14), none, .mov (.t 136), []⟩]) (.seq (.ops [⟨0, (some 137), none, .mov (.t 10), []⟩, ⟨1, (some 138), none, .mov (.t 137), []⟩, ⟨2, (some 139), (some (138, true)), .mov (.t 14), []⟩, ⟨3, (some 140), (some (138, true)), .bin .eql (.t 139) (.c (.int .i64 1)), []⟩, ⟨4, (some 141), none, .pick (.t 138) (.t 140) (.c (.bool false)), []⟩, ⟨5, (some 142), none, .mov (.t 141), []⟩, ⟨6, (some 143), (some (142, true)), .mov (.t 13), []⟩, ⟨7, (some 144), (some (142, true)), .len (.t 143), []⟩, ⟨8, (some 145), (some (142, true)), .bin .eql (.t 144) (.c (.int .i64 0)), []⟩, ⟨9, (some 146), none, .pick (.t 142) (.t 145) (.c (.bool false)), []⟩, ⟨10, (some 147), none, .mov (.t 146), []⟩, ⟨11, (some 148), (some (147, true)), .mov (.t 17), []⟩, ⟨12, (some 149), (some (147, true)), .len (.t 148), []⟩, ⟨13, (some 150), (some (147, true)), .bin .eql (.t 149) (.c (.int .i64 0)), []⟩, ⟨14, (some 151), none, .pick (.t 147) (.t 150) (.c (.bool false)), []⟩, ⟨15, (some 152), none, .mov (.t 151), []⟩, ⟨16, (some 153), (some (152, true)), .mov (.t 18), []⟩, ⟨17, (some 154), (some (152, true)), .len (.t 153), []⟩, ⟨18, (some 155), (some (152, true)), .bin .eql (.t 154) (.c (.int .i64 0)), []⟩, ⟨19, (some 156), none, .pick (.t 152) (.t 155) (.c (.bool false)), []⟩, ⟨20, (some 10), none, .mov (.t 156), []⟩]) (.seq (.ops [⟨0, (some 157), none, .mov (.t 10), []⟩, ⟨1, (some 158), none, .mov (.t 157), []⟩, ⟨2, (some 159), (some (158, true)), .ldn 2 (.t 9), []⟩, ⟨3, (some 160), (some (158, true)), .mov (.t 12), []⟩, ⟨4, (some 161), (some (158, true)), .mov (.t 0), []⟩, ⟨5, (some 162), (some (158, true)), .call (.c (.func (.func 30) #[] #[])) [.t 159, .t 160, .t 161], []⟩, ⟨6, (some 163), (some (158, true)), .bin .eql (.t 162) (.c (.int .i64 0)), []⟩, ⟨7, (some 164), none, .pick (.t 158) (.t 163) (.c (.bool false)), []⟩, ⟨8, (some 165), none, .mov (.t 164), []⟩, ⟨9, (some 166), (some (165, true)), .ldn 2 (.t 9), []⟩, ⟨10, (some 167), (some (165, true)), .mov (.t 12), []⟩, ⟨11, (some 168), (some (165, true)), .mov (.t 0), []⟩, ⟨12, (some 169), (some (165, true)), .call (.c (.func (.func 25) #[] #[])) [.t 166, .t 167, .t 168, .c (.int .u16 3)], []⟩, ⟨13, (some 170), (some (165, true)), .bin .eql (.t 169) (.c (.int .u16 0)), []⟩, ⟨14, (some 171), none, .pick (.t 165) (.t 170) (.c (.bool false)), []⟩, ⟨15, (some 10), none, .mov (.t 171), []⟩]) (.ops [⟨0, (some 172), none, .mov (.t 10), []⟩, ⟨1, (some 173), none, .mov (.t 172), []⟩, ⟨2, (some 174), (some (173, true)), .ldn 2 (.t 9), []⟩, ⟨3, (some 175), (some (173, true)), .mov (.t 12), []⟩, ⟨4, (some 176), (some (173, true)), .mov (.t 0), []⟩, ⟨5, (some 177), (some (173, true)), .call (.c (.func (.func 22) #[] #[])) [.t 174, .t 175, .t 176], []⟩, ⟨6, (some 178), (some (173, true)), .len (.t 177), []⟩, ⟨7, (some 179), (some (173, true)), .bin .eql (.t 178) (.c (.int .i64 0)), []⟩, ⟨8, (some 180), none, .pick (.t 173) (.t 179) (.c (.bool false)), []⟩, ⟨9, (some 181), none, .mov (.t 180), []⟩, ⟨10, (some 182), (some (181, true)), .ldn 2 (.t 9), []⟩, ⟨11, (some 183), (some (181, true)), .mov (.t 12), []⟩, ⟨12, (some 184), (some (181, true)), .mov (.t 0), []⟩, ⟨13, (some 185), (some (181, true)), .mov (.t 1), []⟩, ⟨14, (some 186), (some (181, true)), .call (.c (.func (.func 24) #[] #[])) [.t 182, .t 183, .t 184, .t 185], []⟩, ⟨15, (some 187), (some (181, true)), .len (.t 186), []⟩, ⟨16, (some 188), (some (181, true)), .bin .eql (.t 187) (.c (.int .i64 0)), []⟩, ⟨17, (some 189), none, .pick (.t 181) (.t 188) (.c (.bool false)), []⟩, ⟨18, (some 190), none, .mov (.t 189), []⟩, ⟨19, (some 191), (some (190, true)), .ldn 2 (.t 9), []⟩, ⟨20, (some 192), (some (190, true)), .mov (.t 12), []⟩, ⟨21, (some 193), (some (190, true)), .mov (.t 0), []⟩, ⟨22, (some 194), (some (190, true)), .call (.c (.func (.func 18) #[] #[])) [.t 191, .t 192, .t 193], []⟩, ⟨23, (some 195), (some (190, true)), .len (.t 194), []⟩, ⟨24, (some 196), (some (190, true)), .bin .eql (.t 195) (.c (.int .i64 0)), []⟩, ⟨25, (some 197), none, .pick (.t 190) (.t 196) (.c (.bool false)), []⟩, ⟨26, (some 10), none, .mov (.t 197), []⟩])))))))))))))))) (.ops [⟨0, (some 27), none, .mov (.t 11), []⟩, ⟨1, (some 28), none, .bin .add (.t 27) (.c (.int .i64 1)), []⟩, ⟨2, (some 11), none, .mov (.t 28), []⟩])))))) (.seq (.ops [⟨0, (some 198), none, .mov (.t 10), []⟩, ⟨1, (some 6), none, .mov (.t 198), []⟩]) .ret)))))))
attribute [irreducible] c_culletlaw04_PolysNil
theorem run_culletlaw04_PolysNil {args : List Value} {w : World} {K : Value → World → Prop} (hn : args.length ≤ 199) (h : WP Try.prog c_culletlaw04_PolysNil (endQ [.t 6] K) (initT args) w) : CallV Try.prog 10 args w K :=
  call_of follows Try.func10 (by kernel_rfl) (by kernel_rfl) hn h
end Go.Proofs.Ytcdagkcchfibjaa.Fw
namespace Go.Proofs.Ytcdagkcchfibjaa.Fw
open Go Go.Fw
theorem culletlaw04_PolysNil_spec (w : World) (F G : Value) (LF LG : List (El 16)) (n : Int) (hF : Sl w F LF) (hG : Sl w G LG) (lF : LF.length ≤ 70368744175616) (lG : LG.length ≤ 70368744175616) :
    CallV Try.prog 10 [F, G, .int .i64 n] w fun v w' => v = .bool true ∧ RowKit.Below w.heap.size w w' := by
  refine run_culletlaw04_PolysNil (by simp) ?_
  simp only [c_culletlaw04_PolysNil, WS, List.getElem_cons_zero, List.getElem_cons_succ, Option.isNone_some, Option.isNone_none, List.getD_cons_zero, List.getD_cons_succ, I.at, atL, atO, atP, evp, evs, retV, ↓reduceIte, Nat.reduceEqDiff, reduceCtorEq]
  refine X_call0 ((culletlaw04_both_spec w).mono ?_)
  rintro _ w1 ⟨rb, rw, rfl, hb, hw, hB⟩
  have B := hB
  have hF := hF.up hB
  have hG := hG.up hB
  clear hB
  simp (maxSteps := 1000000) (disch := omega) only [WS, List.getElem_cons_zero, List.getElem_cons_succ, Option.isNone_some, Option.isNone_none, List.getD_cons_zero, List.getD_cons_succ, I.at, atL, atO, atP, evp, evs, retV, ↓reduceIte, Nat.reduceEqDiff, reduceCtorEq, AS]
  refine X_call0 ((culletlaw04_awake_spec w1 rb rw hb hw).mono ?_)
  rintro _ w2 ⟨rfl, hB⟩
  have hF := hF.up hB
  have hG := hG.up hB
  have B := B.trans (hB.mono B.size)
  clear hB
  clear hb hw
  simp (maxSteps := 1000000) (disch := omega) only [WS, List.getElem_cons_zero, List.getElem_cons_succ, Option.isNone_some, Option.isNone_none, List.getD_cons_zero, List.getD_cons_succ, I.at, atL, atO, atP, evp, evs, retV, ↓reduceIte, Nat.reduceEqDiff, reduceCtorEq, AS]
  refine X_alloc fun b w3 hr3 hb3 hB => ?_
  simp (maxSteps := 1000000) (disch := omega) only [WS, List.getElem_cons_zero, List.getElem_cons_succ, Option.isNone_some, Option.isNone_none, List.getD_cons_zero, List.getD_cons_succ, I.at, atL, atO, atP, evp, evs, retV, ↓reduceIte, Nat.reduceEqDiff, reduceCtorEq, AS]
  refine Row.Xstn (vs := [.pointer none, .pointer none]) hr3 rfl (by simp [scal]) (by simp) fun w4 hr hg => ?_
  have hB := Below.row hB hb3 hg
  clear hg hr3 hb3
  have hF := hF.up hB
  have hG := hG.up hB
  have B := B.trans (hB.mono B.size)
  clear hB
  simp (maxSteps := 1000000) (disch := omega) only [WS, List.getElem_cons_zero, List.getElem_cons_succ, Option.isNone_some, Option.isNone_none, List.getD_cons_zero, List.getD_cons_succ, I.at, atL, atO, atP, evp, evs, retV, ↓reduceIte, Nat.reduceEqDiff, reduceCtorEq, AS]
  refine loop_of (fun t w' => t 0 = F ∧ t 1 = G ∧ t 2 = .int .i64 n ∧ t 9 = .pointer (some ⟨b, 0, none⟩) ∧ t 10 = .bool true ∧ RowKit.Below w.heap.size w w' ∧ RowKit.Below w4.heap.size w4 w' ∧ ∃ i : Nat, t 11 = .int .i64 (i : Int) ∧ i ≤ 2) (fun t _ => 2 - (toI (t 11)).toNat) ⟨by simp only [WS, List.getElem_cons_zero, List.getElem_cons_succ, Option.isNone_some, Option.isNone_none, List.getD_cons_zero, List.getD_cons_succ, I.at, atL, atO, atP, evp, evs, retV, ↓reduceIte, Nat.reduceEqDiff, reduceCtorEq], by simp only [WS, List.getElem_cons_zero, List.getElem_cons_succ, Option.isNone_some, Option.isNone_none, List.getD_cons_zero, List.getD_cons_succ, I.at, atL, atO, atP, evp, evs, retV, ↓reduceIte, Nat.reduceEqDiff, reduceCtorEq], by simp only [WS, List.getElem_cons_zero, List.getElem_cons_succ, Option.isNone_some, Option.isNone_none, List.getD_cons_zero, List.getD_cons_succ, I.at, atL, atO, atP, evp, evs, retV, ↓reduceIte, Nat.reduceEqDiff, reduceCtorEq], by simp only [WS, List.getElem_cons_zero, List.getElem_cons_succ, Option.isNone_some, Option.isNone_none, List.getD_cons_zero, List.getD_cons_succ, I.at, atL, atO, atP, evp, evs, retV, ↓reduceIte, Nat.reduceEqDiff, reduceCtorEq], by simp only [WS, List.getElem_cons_zero, List.getElem_cons_succ, Option.isNone_some, Option.isNone_none, List.getD_cons_zero, List.getD_cons_succ, I.at, atL, atO, atP, evp, evs, retV, ↓reduceIte, Nat.reduceEqDiff, reduceCtorEq], B, RowKit.Below.refl _ _, 0, rfl, by omega⟩ ?_
  clear B
  rintro t w5 ⟨t0, t1, t2, t9, t10, B, C, i, t11, hi⟩
  have hF := hF.up C
  have hG := hG.up C
  have hr := hr.up C
  by_cases h2 : i = 2
  · subst h2
    simp (maxSteps := 1000000) (disch := omega) only [WS, List.getElem_cons_zero, List.getElem_cons_succ, Option.isNone_some, Option.isNone_none, List.getD_cons_zero, List.getD_cons_succ, I.at, atL, atO, atP, evp, evs, retV, ↓reduceIte, Nat.reduceEqDiff, reduceCtorEq, AS, t0, t1, t2, t9, t10, t11, show decide (((2 : Nat) : Int) < 2) = false from rfl]
    exact B
  have h01 : i = 0 ∨ i = 1 := by omega
  rcases h01 with rfl | rfl
  · simp (maxSteps := 1000000) (disch := omega) only [WS, List.getElem_cons_zero, List.getElem_cons_succ, Option.isNone_some, Option.isNone_none, List.getD_cons_zero, List.getD_cons_succ, I.at, atL, atO, atP, evp, evs, retV, ↓reduceIte, Nat.reduceEqDiff, reduceCtorEq, AS, t0, t1, t2, t9, t10, t11, hr.Xldn (n := 2) rfl, show decide (((0 : Nat) : Int) < 2) = true from rfl, show decide (((0 : Nat) : Int) = 1) = false from rfl]
    refine X_call0 ((nilR_mul_b w5 F LF hF lF G LG hG lG).mono ?_)
    rintro _ w6 ⟨hB, z0, rfl, o0⟩
    have C := C.trans (hB.mono C.size)
    have hF := hF.up hB
    have hG := hG.up hB
    have hr := hr.up hB
    have B := B.trans (hB.mono B.size)
    clear hB
    simp (maxSteps := 1000000) (disch := omega) only [WS, List.getElem_cons_zero, List.getElem_cons_succ, Option.isNone_some, Option.isNone_none, List.getD_cons_zero, List.getD_cons_succ, I.at, atL, atO, atP, evp, evs, retV, ↓reduceIte, Nat.reduceEqDiff, reduceCtorEq, AS, t0, t1, t2, t9, t10, t11, hr.Xldn (n := 2) rfl, o0.Xlen, List.length_nil, show decide (((0 : Nat) : Int) = 0) = true from rfl, show decide ((1 : Int) = 1) = true from rfl, show decide ((0 : Int) = 0) = true from rfl, show decide (((0 : Nat) : Int) < 2) = true from rfl, show decide (((0 : Nat) : Int) = 1) = false from rfl]
    refine X_call0 ((nilR_divMod_b w6 F LF hF lF G LG hG lG).mono ?_)
    rintro _ w7 ⟨hB, z0, z1, rfl, o0, o1⟩
    have C := C.trans (hB.mono C.size)
    have hF := hF.up hB
    have hG := hG.up hB
    have hr := hr.up hB
    have B := B.trans (hB.mono B.size)
    clear hB
    simp (maxSteps := 1000000) (disch := omega) only [WS, List.getElem_cons_zero, List.getElem_cons_succ, Option.isNone_some, Option.isNone_none, List.getD_cons_zero, List.getD_cons_succ, I.at, atL, atO, atP, evp, evs, retV, ↓reduceIte, Nat.reduceEqDiff, reduceCtorEq, AS, t0, t1, t2, t9, t10, t11, hr.Xldn (n := 2) rfl, o0.Xlen, o1.Xlen, List.length_nil, show decide (((0 : Nat) : Int) = 0) = true from rfl, show decide ((1 : Int) = 1) = true from rfl, show decide ((0 : Int) = 0) = true from rfl, show decide (((0 : Nat) : Int) < 2) = true from rfl, show decide (((0 : Nat) : Int) = 1) = false from rfl]
    refine X_call0 ((nilR_gcd_b w7 F LF hF lF G LG hG lG).mono ?_)
    rintro _ w8 ⟨hB, z0, rfl, o0⟩
    have C := C.trans (hB.mono C.size)
    have hF := hF.up hB
    have hG := hG.up hB
    have hr := hr.up hB
    have B := B.trans (hB.mono B.size)
    clear hB
    simp (maxSteps := 1000000) (disch := omega) only [WS, List.getElem_cons_zero, List.getElem_cons_succ, Option.isNone_some, Option.isNone_none, List.getD_cons_zero, List.getD_cons_succ, I.at, atL, atO, atP, evp, evs, retV, ↓reduceIte, Nat.reduceEqDiff, reduceCtorEq, AS, t0, t1, t2, t9, t10, t11, hr.Xldn (n := 2) rfl, o0.Xlen, List.length_nil, show decide (((0 : Nat) : Int) = 0) = true from rfl, show decide ((1 : Int) = 1) = true from rfl, show decide ((0 : Int) = 0) = true from rfl, show decide (((0 : Nat) : Int) < 2) = true from rfl, show decide (((0 : Nat) : Int) = 1) = false from rfl]
    refine X_call0 ((nilR_vanishing_b w8 F LF hF lF).mono ?_)
    rintro _ w9 ⟨hB, z0, rfl, o0⟩
    have C := C.trans (hB.mono C.size)
    have hF := hF.up hB
    have hG := hG.up hB
    have hr := hr.up hB
    have B := B.trans (hB.mono B.size)
    clear hB
    simp (maxSteps := 1000000) (disch := omega) only [WS, List.getElem_cons_zero, List.getElem_cons_succ, Option.isNone_some, Option.isNone_none, List.getD_cons_zero, List.getD_cons_succ, I.at, atL, atO, atP, evp, evs, retV, ↓reduceIte, Nat.reduceEqDiff, reduceCtorEq, AS, t0, t1, t2, t9, t10, t11, hr.Xldn (n := 2) rfl, o0.Xlen, List.length_nil, show decide (((0 : Nat) : Int) = 0) = true from rfl, show decide ((1 : Int) = 1) = true from rfl, show decide ((0 : Int) = 0) = true from rfl, show decide (((0 : Nat) : Int) < 2) = true from rfl, show decide (((0 : Nat) : Int) = 1) = false from rfl]
    refine X_call0 ((nilR_interpolate_b w9 F LF hF lF G LG hG lG).mono ?_)
    rintro _ w10 ⟨hB, z0, rfl, o0⟩
    have C := C.trans (hB.mono C.size)
    have hF := hF.up hB
    have hG := hG.up hB
    have hr := hr.up hB
    have B := B.trans (hB.mono B.size)
    clear hB
    simp (maxSteps := 1000000) (disch := omega) only [WS, List.getElem_cons_zero, List.getElem_cons_succ, Option.isNone_some, Option.isNone_none, List.getD_cons_zero, List.getD_cons_succ, I.at, atL, atO, atP, evp, evs, retV, ↓reduceIte, Nat.reduceEqDiff, reduceCtorEq, AS, t0, t1, t2, t9, t10, t11, hr.Xldn (n := 2) rfl, o0.Xlen, List.length_nil, show decide (((0 : Nat) : Int) = 0) = true from rfl, show decide ((1 : Int) = 1) = true from rfl, show decide ((0 : Int) = 0) = true from rfl, show decide (((0 : Nat) : Int) < 2) = true from rfl, show decide (((0 : Nat) : Int) = 1) = false from rfl]
    refine X_call0 ((nilR_partial_b w10 F LF hF lF G LG hG lG n).mono ?_)
    rintro _ w11 ⟨hB, z0, z1, z2, rfl, o0, o1, o2⟩
    have C := C.trans (hB.mono C.size)
    have hF := hF.up hB
    have hG := hG.up hB
    have hr := hr.up hB
    have B := B.trans (hB.mono B.size)
    clear hB
    simp (maxSteps := 1000000) (disch := omega) only [WS, List.getElem_cons_zero, List.getElem_cons_succ, Option.isNone_some, Option.isNone_none, List.getD_cons_zero, List.getD_cons_succ, I.at, atL, atO, atP, evp, evs, retV, ↓reduceIte, Nat.reduceEqDiff, reduceCtorEq, AS, t0, t1, t2, t9, t10, t11, hr.Xldn (n := 2) rfl, o0.Xlen, o1.Xlen, o2.Xlen, List.length_nil, show decide (((0 : Nat) : Int) = 0) = true from rfl, show decide ((1 : Int) = 1) = true from rfl, show decide ((0 : Int) = 0) = true from rfl, show decide (((0 : Nat) : Int) < 2) = true from rfl, show decide (((0 : Nat) : Int) = 1) = false from rfl]
    refine X_call0 ((nilR_degree_b w11 F LF hF lF).mono ?_)
    rintro _ w12 ⟨hB, rfl⟩
    have C := C.trans (hB.mono C.size)
    have hF := hF.up hB
    have hG := hG.up hB
    have hr := hr.up hB
    have B := B.trans (hB.mono B.size)
    clear hB
    simp (maxSteps := 1000000) (disch := omega) only [WS, List.getElem_cons_zero, List.getElem_cons_succ, Option.isNone_some, Option.isNone_none, List.getD_cons_zero, List.getD_cons_succ, I.at, atL, atO, atP, evp, evs, retV, ↓reduceIte, Nat.reduceEqDiff, reduceCtorEq, AS, t0, t1, t2, t9, t10, t11, hr.Xldn (n := 2) rfl, List.length_nil, show decide (((0 : Nat) : Int) = 0) = true from rfl, show decide ((1 : Int) = 1) = true from rfl, show decide ((0 : Int) = 0) = true from rfl, show decide (((0 : Nat) : Int) < 2) = true from rfl, show decide (((0 : Nat) : Int) = 1) = false from rfl]
    refine X_call0 ((nilR_eval_b w12 F LF hF lF).mono ?_)
    rintro _ w13 ⟨hB, rfl⟩
    have C := C.trans (hB.mono C.size)
    have hF := hF.up hB
    have hG := hG.up hB
    have hr := hr.up hB
    have B := B.trans (hB.mono B.size)
    clear hB
    simp (maxSteps := 1000000) (disch := omega) only [WS, List.getElem_cons_zero, List.getElem_cons_succ, Option.isNone_some, Option.isNone_none, List.getD_cons_zero, List.getD_cons_succ, I.at, atL, atO, atP, evp, evs, retV, ↓reduceIte, Nat.reduceEqDiff, reduceCtorEq, AS, t0, t1, t2, t9, t10, t11, hr.Xldn (n := 2) rfl, List.length_nil, show decide (((0 : Nat) : Int) = 0) = true from rfl, show decide ((1 : Int) = 1) = true from rfl, show decide ((0 : Int) = 0) = true from rfl, show decide (((0 : Nat) : Int) < 2) = true from rfl, show decide (((0 : Nat) : Int) = 1) = false from rfl]
    refine X_call0 ((nilR_trim_b w13 F LF hF lF).mono ?_)
    rintro z0 w14 ⟨hB, o0⟩
    have C := C.trans (hB.mono C.size)
    have hF := hF.up hB
    have hG := hG.up hB
    have hr := hr.up hB
    have B := B.trans (hB.mono B.size)
    clear hB
    simp (maxSteps := 1000000) (disch := omega) only [WS, List.getElem_cons_zero, List.getElem_cons_succ, Option.isNone_some, Option.isNone_none, List.getD_cons_zero, List.getD_cons_succ, I.at, atL, atO, atP, evp, evs, retV, ↓reduceIte, Nat.reduceEqDiff, reduceCtorEq, AS, t0, t1, t2, t9, t10, t11, hr.Xldn (n := 2) rfl, o0.Xlen, List.length_nil, show decide (((0 : Nat) : Int) = 0) = true from rfl, show decide ((1 : Int) = 1) = true from rfl, show decide ((0 : Int) = 0) = true from rfl, show decide (((0 : Nat) : Int) < 2) = true from rfl, show decide (((0 : Nat) : Int) = 1) = false from rfl]
    refine X_call0 ((nilR_add_b w14 F LF hF lF G LG hG lG).mono ?_)
    rintro z0 w15 ⟨hB, o0⟩
    have C := C.trans (hB.mono C.size)
    have hF := hF.up hB
    have hG := hG.up hB
    have hr := hr.up hB
    have B := B.trans (hB.mono B.size)
    clear hB
    simp (maxSteps := 1000000) (disch := omega) only [WS, List.getElem_cons_zero, List.getElem_cons_succ, Option.isNone_some, Option.isNone_none, List.getD_cons_zero, List.getD_cons_succ, I.at, atL, atO, atP, evp, evs, retV, ↓reduceIte, Nat.reduceEqDiff, reduceCtorEq, AS, t0, t1, t2, t9, t10, t11, hr.Xldn (n := 2) rfl, o0.Xlen, List.length_nil, show decide (((0 : Nat) : Int) = 0) = true from rfl, show decide ((1 : Int) = 1) = true from rfl, show decide ((0 : Int) = 0) = true from rfl, show decide (((0 : Nat) : Int) < 2) = true from rfl, show decide (((0 : Nat) : Int) = 1) = false from rfl]
    refine X_call0 ((nilR_derivative_b w15 F LF hF lF).mono ?_)
    rintro z0 w16 ⟨hB, o0⟩
    have C := C.trans (hB.mono C.size)
    have hF := hF.up hB
    have hG := hG.up hB
    have hr := hr.up hB
    have B := B.trans (hB.mono B.size)
    clear hB
    simp (maxSteps := 1000000) (disch := omega) only [WS, List.getElem_cons_zero, List.getElem_cons_succ, Option.isNone_some, Option.isNone_none, List.getD_cons_zero, List.getD_cons_succ, I.at, atL, atO, atP, evp, evs, retV, ↓reduceIte, Nat.reduceEqDiff, reduceCtorEq, AS, t0, t1, t2, t9, t10, t11, hr.Xldn (n := 2) rfl, o0.Xlen, List.length_nil, show decide (((0 : Nat) : Int) = 0) = true from rfl, show decide ((1 : Int) = 1) = true from rfl, show decide ((0 : Int) = 0) = true from rfl, show decide (((0 : Nat) : Int) < 2) = true from rfl, show decide (((0 : Nat) : Int) = 1) = false from rfl]
    exact ⟨⟨B, C, 1, rfl, by omega⟩, by omega⟩
  · simp (maxSteps := 1000000) (disch := omega) only [WS, List.getElem_cons_zero, List.getElem_cons_succ, Option.isNone_some, Option.isNone_none, List.getD_cons_zero, List.getD_cons_succ, I.at, atL, atO, atP, evp, evs, retV, ↓reduceIte, Nat.reduceEqDiff, reduceCtorEq, AS, t0, t1, t2, t9, t10, t11, hr.Xldn (n := 2) rfl, show decide (((1 : Nat) : Int) < 2) = true from rfl, show decide (((1 : Nat) : Int) = 1) = true from rfl]
    refine X_call0 ((nilR_mul_w w5 F LF hF lF G LG hG lG).mono ?_)
    rintro _ w6 ⟨hB, z0, rfl, o0⟩
    have C := C.trans (hB.mono C.size)
    have hF := hF.up hB
    have hG := hG.up hB
    have hr := hr.up hB
    have B := B.trans (hB.mono B.size)
    clear hB
    simp (maxSteps := 1000000) (disch := omega) only [WS, List.getElem_cons_zero, List.getElem_cons_succ, Option.isNone_some, Option.isNone_none, List.getD_cons_zero, List.getD_cons_succ, I.at, atL, atO, atP, evp, evs, retV, ↓reduceIte, Nat.reduceEqDiff, reduceCtorEq, AS, t0, t1, t2, t9, t10, t11, hr.Xldn (n := 2) rfl, o0.Xlen, List.length_nil, show decide (((0 : Nat) : Int) = 0) = true from rfl, show decide ((1 : Int) = 1) = true from rfl, show decide ((0 : Int) = 0) = true from rfl, show decide (((1 : Nat) : Int) < 2) = true from rfl, show decide (((1 : Nat) : Int) = 1) = true from rfl]
    refine X_call0 ((nilR_divMod_w w6 F LF hF lF G LG hG lG).mono ?_)
    rintro _ w7 ⟨hB, z0, z1, rfl, o0, o1⟩
    have C := C.trans (hB.mono C.size)
    have hF := hF.up hB
    have hG := hG.up hB
    have hr := hr.up hB
    have B := B.trans (hB.mono B.size)
    clear hB
    simp (maxSteps := 1000000) (disch := omega) only [WS, List.getElem_cons_zero, List.getElem_cons_succ, Option.isNone_some, Option.isNone_none, List.getD_cons_zero, List.getD_cons_succ, I.at, atL, atO, atP, evp, evs, retV, ↓reduceIte, Nat.reduceEqDiff, reduceCtorEq, AS, t0, t1, t2, t9, t10, t11, hr.Xldn (n := 2) rfl, o0.Xlen, o1.Xlen, List.length_nil, show decide (((0 : Nat) : Int) = 0) = true from rfl, show decide ((1 : Int) = 1) = true from rfl, show decide ((0 : Int) = 0) = true from rfl, show decide (((1 : Nat) : Int) < 2) = true from rfl, show decide (((1 : Nat) : Int) = 1) = true from rfl]
    refine X_call0 ((nilR_gcd_w w7 F LF hF lF G LG hG lG).mono ?_)
    rintro _ w8 ⟨hB, z0, rfl, o0⟩
    have C := C.trans (hB.mono C.size)
    have hF := hF.up hB
    have hG := hG.up hB
    have hr := hr.up hB
    have B := B.trans (hB.mono B.size)
    clear hB
    simp (maxSteps := 1000000) (disch := omega) only [WS, List.getElem_cons_zero, List.getElem_cons_succ, Option.isNone_some, Option.isNone_none, List.getD_cons_zero, List.getD_cons_succ, I.at, atL, atO, atP, evp, evs, retV, ↓reduceIte, Nat.reduceEqDiff, reduceCtorEq, AS, t0, t1, t2, t9, t10, t11, hr.Xldn (n := 2) rfl, o0.Xlen, List.length_nil, show decide (((0 : Nat) : Int) = 0) = true from rfl, show decide ((1 : Int) = 1) = true from rfl, show decide ((0 : Int) = 0) = true from rfl, show decide (((1 : Nat) : Int) < 2) = true from rfl, show decide (((1 : Nat) : Int) = 1) = true from rfl]
    refine X_call0 ((nilR_vanishing_w w8 F LF hF lF).mono ?_)
    rintro _ w9 ⟨hB, z0, rfl, o0⟩
    have C := C.trans (hB.mono C.size)
    have hF := hF.up hB
    have hG := hG.up hB
    have hr := hr.up hB
    have B := B.trans (hB.mono B.size)
    clear hB
    simp (maxSteps := 1000000) (disch := omega) only [WS, List.getElem_cons_zero, List.getElem_cons_succ, Option.isNone_some, Option.isNone_none, List.getD_cons_zero, List.getD_cons_succ, I.at, atL, atO, atP, evp, evs, retV, ↓reduceIte, Nat.reduceEqDiff, reduceCtorEq, AS, t0, t1, t2, t9, t10, t11, hr.Xldn (n := 2) rfl, o0.Xlen, List.length_nil, show decide (((0 : Nat) : Int) = 0) = true from rfl, show decide ((1 : Int) = 1) = true from rfl, show decide ((0 : Int) = 0) = true from rfl, show decide (((1 : Nat) : Int) < 2) = true from rfl, show decide (((1 : Nat) : Int) = 1) = true from rfl]
    refine X_call0 ((nilR_interpolate_w w9 F LF hF lF G LG hG lG).mono ?_)
    rintro _ w10 ⟨hB, z0, rfl, o0⟩
    have C := C.trans (hB.mono C.size)
    have hF := hF.up hB
    have hG := hG.up hB
    have hr := hr.up hB
    have B := B.trans (hB.mono B.size)
    clear hB
    simp (maxSteps := 1000000) (disch := omega) only [WS, List.getElem_cons_zero, List.getElem_cons_succ, Option.isNone_some, Option.isNone_none, List.getD_cons_zero, List.getD_cons_succ, I.at, atL, atO, atP, evp, evs, retV, ↓reduceIte, Nat.reduceEqDiff, reduceCtorEq, AS, t0, t1, t2, t9, t10, t11, hr.Xldn (n := 2) rfl, o0.Xlen, List.length_nil, show decide (((0 : Nat) : Int) = 0) = true from rfl, show decide ((1 : Int) = 1) = true from rfl, show decide ((0 : Int) = 0) = true from rfl, show decide (((1 : Nat) : Int) < 2) = true from rfl, show decide (((1 : Nat) : Int) = 1) = true from rfl]
    refine X_call0 ((nilR_partial_w w10 F LF hF lF G LG hG lG n).mono ?_)
    rintro _ w11 ⟨hB, z0, z1, z2, rfl, o0, o1, o2⟩
    have C := C.trans (hB.mono C.size)
    have hF := hF.up hB
    have hG := hG.up hB
    have hr := hr.up hB
    have B := B.trans (hB.mono B.size)
    clear hB
    simp (maxSteps := 1000000) (disch := omega) only [WS, List.getElem_cons_zero, List.getElem_cons_succ, Option.isNone_some, Option.isNone_none, List.getD_cons_zero, List.getD_cons_succ, I.at, atL, atO, atP, evp, evs, retV, ↓reduceIte, Nat.reduceEqDiff, reduceCtorEq, AS, t0, t1, t2, t9, t10, t11, hr.Xldn (n := 2) rfl, o0.Xlen, o1.Xlen, o2.Xlen, List.length_nil, show decide (((0 : Nat) : Int) = 0) = true from rfl, show decide ((1 : Int) = 1) = true from rfl, show decide ((0 : Int) = 0) = true from rfl, show decide (((1 : Nat) : Int) < 2) = true from rfl, show decide (((1 : Nat) : Int) = 1) = true from rfl]
    refine X_call0 ((nilR_degree_w w11 F LF hF lF).mono ?_)
    rintro _ w12 ⟨hB, rfl⟩
    have C := C.trans (hB.mono C.size)
    have hF := hF.up hB
    have hG := hG.up hB
    have hr := hr.up hB
    have B := B.trans (hB.mono B.size)
    clear hB
    simp (maxSteps := 1000000) (disch := omega) only [WS, List.getElem_cons_zero, List.getElem_cons_succ, Option.isNone_some, Option.isNone_none, List.getD_cons_zero, List.getD_cons_succ, I.at, atL, atO, atP, evp, evs, retV, ↓reduceIte, Nat.reduceEqDiff, reduceCtorEq, AS, t0, t1, t2, t9, t10, t11, hr.Xldn (n := 2) rfl, List.length_nil, show decide (((0 : Nat) : Int) = 0) = true from rfl, show decide ((1 : Int) = 1) = true from rfl, show decide ((0 : Int) = 0) = true from rfl, show decide (((1 : Nat) : Int) < 2) = true from rfl, show decide (((1 : Nat) : Int) = 1) = true from rfl]
    refine X_call0 ((nilR_eval_w w12 F LF hF lF).mono ?_)
    rintro _ w13 ⟨hB, rfl⟩
    have C := C.trans (hB.mono C.size)
    have hF := hF.up hB
    have hG := hG.up hB
    have hr := hr.up hB
    have B := B.trans (hB.mono B.size)
    clear hB
    simp (maxSteps := 1000000) (disch := omega) only [WS, List.getElem_cons_zero, List.getElem_cons_succ, Option.isNone_some, Option.isNone_none, List.getD_cons_zero, List.getD_cons_succ, I.at, atL, atO, atP, evp, evs, retV, ↓reduceIte, Nat.reduceEqDiff, reduceCtorEq, AS, t0, t1, t2, t9, t10, t11, hr.Xldn (n := 2) rfl, List.length_nil, show decide (((0 : Nat) : Int) = 0) = true from rfl, show decide ((1 : Int) = 1) = true from rfl, show decide ((0 : Int) = 0) = true from rfl, show decide (((1 : Nat) : Int) < 2) = true from rfl, show decide (((1 : Nat) : Int) = 1) = true from rfl]
    refine X_call0 ((nilR_trim_w w13 F LF hF lF).mono ?_)
    rintro z0 w14 ⟨hB, o0⟩
    have C := C.trans (hB.mono C.size)
    have hF := hF.up hB
    have hG := hG.up hB
    have hr := hr.up hB
    have B := B.trans (hB.mono B.size)
    clear hB
    simp (maxSteps := 1000000) (disch := omega) only [WS, List.getElem_cons_zero, List.getElem_cons_succ, Option.isNone_some, Option.isNone_none, List.getD_cons_zero, List.getD_cons_succ, I.at, atL, atO, atP, evp, evs, retV, ↓reduceIte, Nat.reduceEqDiff, reduceCtorEq, AS, t0, t1, t2, t9, t10, t11, hr.Xldn (n := 2) rfl, o0.Xlen, List.length_nil, show decide (((0 : Nat) : Int) = 0) = true from rfl, show decide ((1 : Int) = 1) = true from rfl, show decide ((0 : Int) = 0) = true from rfl, show decide (((1 : Nat) : Int) < 2) = true from rfl, show decide (((1 : Nat) : Int) = 1) = true from rfl]
    refine X_call0 ((nilR_add_w w14 F LF hF lF G LG hG lG).mono ?_)
    rintro z0 w15 ⟨hB, o0⟩
    have C := C.trans (hB.mono C.size)
    have hF := hF.up hB
    have hG := hG.up hB
    have hr := hr.up hB
    have B := B.trans (hB.mono B.size)
    clear hB
    simp (maxSteps := 1000000) (disch := omega) only [WS, List.getElem_cons_zero, List.getElem_cons_succ, Option.isNone_some, Option.isNone_none, List.getD_cons_zero, List.getD_cons_succ, I.at, atL, atO, atP, evp, evs, retV, ↓reduceIte, Nat.reduceEqDiff, reduceCtorEq, AS, t0, t1, t2, t9, t10, t11, hr.Xldn (n := 2) rfl, o0.Xlen, List.length_nil, show decide (((0 : Nat) : Int) = 0) = true from rfl, show decide ((1 : Int) = 1) = true from rfl, show decide ((0 : Int) = 0) = true from rfl, show decide (((1 : Nat) : Int) < 2) = true from rfl, show decide (((1 : Nat) : Int) = 1) = true from rfl]
    refine X_call0 ((nilR_derivative_w w15 F LF hF lF).mono ?_)
    rintro z0 w16 ⟨hB, o0⟩
    have C := C.trans (hB.mono C.size)
    have hF := hF.up hB
    have hG := hG.up hB
    have hr := hr.up hB
    have B := B.trans (hB.mono B.size)
    clear hB
    simp (maxSteps := 1000000) (disch := omega) only [WS, List.getElem_cons_zero, List.getElem_cons_succ, Option.isNone_some, Option.isNone_none, List.getD_cons_zero, List.getD_cons_succ, I.at, atL, atO, atP, evp, evs, retV, ↓reduceIte, Nat.reduceEqDiff, reduceCtorEq, AS, t0, t1, t2, t9, t10, t11, hr.Xldn (n := 2) rfl, o0.Xlen, List.length_nil, show decide (((0 : Nat) : Int) = 0) = true from rfl, show decide ((1 : Int) = 1) = true from rfl, show decide ((0 : Int) = 0) = true from rfl, show decide (((1 : Nat) : Int) < 2) = true from rfl, show decide (((1 : Nat) : Int) = 1) = true from rfl]
    exact ⟨⟨B, C, 2, rfl, by omega⟩, by omega⟩
end Go.Proofs.Ytcdagkcchfibjaa.Fw
