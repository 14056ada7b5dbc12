import Derived.Test.YtcdagkcchfibjaaProg
import Derived.Test.YtcdagkcchfibjaaFwTT
import Derived.Test.YtcdagkcchfibjaaSSPsT
set_option linter.all false
set_option linter.unusedVariables false
set_option linter.unusedSimpArgs false
set_option maxRecDepth 100000
set_option maxHeartbeats 1000000
namespace Go.Proofs.Ytcdagkcchfibjaa.Fw
open Go Go.Fw Go.Proofs
attribute [local irreducible] stepI
def c_culletlaw04_PolysThrough : C := .seq (.ops [⟨0, (some 1), none, .box 33 (.t 0), []⟩, ⟨1, (some 2), none, .mov (.c (.bool false)), []⟩]) (.seq (.ops [⟨0, (some 13), none, .call (.c (.func (.func 12) #[] #[])) [], []⟩, ⟨1, (some 3), none, .alloc 25 [.pointer none, .pointer none], []⟩, ⟨2, none, none, .stn 2 (.t 3) (.t 13), []⟩]) (.seq (.ops [⟨0, (some 15), none, .ldn 2 (.t 3), []⟩, ⟨1, (some 16), none, .bsl 28 2 [.int .u16 0] [(0, (1, .c (.int .u16 0))), (1, (1, .c (.int .u16 1)))], []⟩, ⟨2, (some 17), none, .bsl 28 2 [.int .u16 0] [(0, (1, .c (.int .u16 5))), (1, (1, .c (.int .u16 7)))], []⟩, ⟨3, (some 18), none, .call (.c (.func (.func 20) #[] #[])) [.t 15, .c (.bool false), .t 16, .t 17], []⟩, ⟨4, (some 14), none, .mov (.t 18), []⟩, ⟨5, (some 19), none, .ext (.t 14) 0, []⟩, ⟨6, (some 20), none, .ext (.t 14) 1, []⟩, ⟨7, (some 4), none, .mov (.t 19), []⟩, ⟨8, (some 5), none, .mov (.t 20), []⟩]) (.seq (.seq (.ops [⟨0, (some 21), none, .mov (.t 5), []⟩, ⟨1, (some 22), none, .bin .neq (.t 21) (.c (.int .i64 0)), []⟩, ⟨2, (some 23), none, .mov (.t 22), []⟩, ⟨3, (some 24), (some (23, false)), .mov (.t 4), []⟩, ⟨4, (some 25), (some (23, false)), .bsl 28 2 [.int .u16 0] [(0, (1, .c (.int .u16 5))), (1, (1, .c (.int .u16 2)))], []⟩, ⟨5, (some 26), (some (23, false)), .call (.c (.func (.func 15) #[] #[])) [.t 24, .t 25], []⟩, ⟨6, (some 27), (some (23, false)), .un .not (.t 26), []⟩, ⟨7, (some 28), none, .pick (.t 23) (.c (.bool true)) (.t 27), []⟩]) (.ite (.t 28) (.seq (.ops [⟨0, (some 2), none, .mov (.c (.bool false)), []⟩]) .ret) .skip)) (.seq (.ops [⟨0, (some 29), none, .fad 1 (.t 1), []⟩, ⟨1, (some 30), none, .ld (.t 29), []⟩, ⟨2, (some 31), none, .fad 2 (.t 1), []⟩, ⟨3, (some 32), none, .ld (.t 31), []⟩, ⟨4, (some 33), none, .call (.c (.func (.func 16) #[] #[])) [.t 30, .t 32], []⟩, ⟨5, (some 6), none, .mov (.t 33), []⟩]) (.seq (.ops [⟨0, (some 34), none, .fad 1 (.t 1), []⟩, ⟨1, (some 35), none, .ld (.t 34), []⟩, ⟨2, (some 36), none, .fad 3 (.t 1), []⟩, ⟨3, (some 37), none, .ld (.t 36), []⟩, ⟨4, (some 38), none, .call (.c (.func (.func 16) #[] #[])) [.t 35, .t 37], []⟩, ⟨5, (some 7), none, .mov (.t 38), []⟩]) (.seq (.seq (.ops [⟨0, (some 39), none, .mov (.t 6), []⟩, ⟨1, (some 40), none, .len (.t 39), []⟩, ⟨2, (some 41), none, .bin .gtr (.t 40) (.c (.int .i64 64)), []⟩, ⟨3, (some 42), none, .mov (.t 41), []⟩, ⟨4, (some 43), (some (42, false)), .mov (.t 7), []⟩, ⟨5, (some 44), (some (42, false)), .len (.t 43), []⟩, ⟨6, (some 45), (some (42, false)), .bin .gtr (.t 44) (.c (.int .i64 1024)), []⟩, ⟨7, (some 46), none, .pick (.t 42) (.c (.bool true)) (.t 45), []⟩]) (.ite (.t 46) (.seq (.ops [⟨0, (some 2), none, .mov (.c (.bool true)), []⟩]) .ret) .skip)) (.seq (.ops [⟨0, (some 48), none, .ldn 2 (.t 3), []⟩, ⟨1, (some 49), none, .fad 1 (.t 1), []⟩, ⟨2, (some 50), none, .ld (.t 49), []⟩, ⟨3, (some 51), none, .mov (.t 6), []⟩, ⟨4, (some 52), none, .mov (.t 7), []⟩, ⟨5, (some 53), none, .call (.c (.func (.func 20) #[] #[])) [.t 48, .t 50, .t 51, .t 52], []⟩, ⟨6, (some 47), none, .mov (.t 53), []⟩, ⟨7, (some 54), none, .ext (.t 47) 0, []⟩, ⟨8, (some 55), none, .ext (.t 47) 1, []⟩, ⟨9, (some 4), none, .mov (.t 54), []⟩, ⟨10, (some 5), none, .mov (.t 55), []⟩]) (.seq (.seq (.ops [⟨0, (some 56), none, .mov (.t 6), []⟩, ⟨1, (some 57), none, .len (.t 56), []⟩, ⟨2, (some 58), none, .mov (.t 7), []⟩, ⟨3, (some 59), none, .len (.t 58), []⟩, ⟨4, (some 60), none, .bin .neq (.t 57) (.t 59), []⟩]) (.ite (.t 60) (.seq (.ops [⟨0, (some 61), none, .mov (.t 5), []⟩, ⟨1, (some 62), none, .bin .eql (.t 61) (.c (.int .i64 6)), []⟩, ⟨2, (some 63), none, .mov (.t 62), []⟩, ⟨3, (some 64), (some (63, true)), .mov (.t 4), []⟩, ⟨4, (some 65), (some (63, true)), .len (.t 64), []⟩, ⟨5, (some 66), (some (63, true)), .bin .eql (.t 65) (.c (.int .i64 0)), []⟩, ⟨6, (some 67), none, .pick (.t 63) (.t 66) (.c (.bool false)), []⟩, ⟨7, (some 2), none, .mov (.t 67), []⟩]) .ret) .skip)) (.seq (.seq (.ops [⟨0, (some 8), none, .mov (.c (.int .i64 0)), []⟩]) (.block 0 (.loop (.seq (.seq (.ops [⟨0, (some 68), none, .mov (.t 8), []⟩, ⟨1, (some 69), none, .mov (.t 6), []⟩, ⟨2, (some 70), none, .len (.t 69), []⟩, ⟨3, (some 71), none, .bin .lss (.t 68) (.t 70), []⟩]) (.ite (.t 71) .skip (.exit 0))) (.seq (.block 1 (.seq (.ops [⟨0, (some 9), none, .mov (.c (.int .i64 0)), []⟩]) (.block 2 (.loop (.seq (.seq (.ops [⟨0, (some 74), none, .mov (.t 9), []⟩, ⟨1, (some 75), none, .mov (.t 8), []⟩, ⟨2, (some 76), none, .bin .lss (.t 74) (.t 75), []⟩]) (.ite (.t 76) .skip (.exit 2))) (.seq (.block 3 (.seq (.dops [⟨0, (some 79), none, .mov (.t 6), []⟩, ⟨1, (some 80), none, .mov (.t 8), []⟩, ⟨2, (some 81), none, .ixs 1 (.t 79) (.t 80), []⟩, ⟨3, (some 82), none, .ld (.t 81), []⟩, ⟨4, (some 83), none, .mov (.t 6), []⟩, ⟨5, (some 84), none, .mov (.t 9), []⟩, ⟨6, (some 85), none, .ixs 1 (.t 83) (.t 84), []⟩, ⟨7, (some 86), none, .ld (.t 85), []⟩, ⟨8, (some 87), none, .bin .eql (.t 82) (.t 86), []⟩]) (.ite (.t 87) (.seq (.ops [⟨0, (some 88), none, .mov (.t 5), []⟩, ⟨1, (some 89), none, .bin .eql (.t 88) (.c (.int .i64 41)), []⟩, ⟨2, (some 90), none, .mov (.t 89), []⟩, ⟨3, (some 91), (some (90, true)), .mov (.t 4), []⟩, ⟨4, (some 92), (some (90, true)), .len (.t 91), []⟩, ⟨5, (some 93), (some (90, true)), .bin .eql (.t 92) (.c (.int .i64 0)), []⟩, ⟨6, (some 94), none, .pick (.t 90) (.t 93) (.c (.bool false)), []⟩, ⟨7, (some 2), none, .mov (.t 94), []⟩]) .ret) .skip))) (.ops [⟨0, (some 77), none, .mov (.t 9), []⟩, ⟨1, (some 78), none, .bin .add (.t 77) (.c (.int .i64 1)), []⟩, ⟨2, (some 9), none, .mov (.t 78), []⟩]))))))) (.ops [⟨0, (some 72), none, .mov (.t 8), []⟩, ⟨1, (some 73), none, .bin .add (.t 72) (.c (.int .i64 1)), []⟩, ⟨2, (some 8), none, .mov (.t 73), []⟩])))))) (.seq (.seq (.ops [⟨0, (some 95), none, .mov (.t 5), []⟩, ⟨1, (some 96), none, .bin .neq (.t 95) (.c (.int .i64 0)), []⟩, ⟨2, (some 97), none, .mov (.t 96), []⟩, ⟨3, (some 98), (some (97, false)), .mov (.t 4), []⟩, ⟨4, (some 99), (some (97, false)), .call (.c (.func (.func 21) #[] #[])) [.t 98], []⟩, ⟨5, (some 100), (some (97, false)), .un .not (.t 99), []⟩, ⟨6, (some 101), none, .pick (.t 97) (.c (.bool true)) (.t 100), []⟩, ⟨7, (some 102), none, .mov (.t 101), []⟩, ⟨8, (some 103), (some (102, false)), .mov (.t 4), []⟩, ⟨9, (some 104), (some (102, false)), .len (.t 103), []⟩, ⟨10, (some 105), (some (102, false)), .mov (.t 6), []⟩, ⟨11, (some 106), (some (102, false)), .len (.t 105), []⟩, ⟨12, (some 107), (some (102, false)), .bin .gtr (.t 104) (.t 106), []⟩, ⟨13, (some 108), none, .pick (.t 102) (.c (.bool true)) (.t 107), []⟩]) (.ite (.t 108) (.seq (.ops [⟨0, (some 2), none, .mov (.c (.bool false)), []⟩]) .ret) .skip)) (.seq (.ops [⟨0, (some 109), none, .mov (.t 6), []⟩, ⟨1, (some 110), none, .len (.t 109), []⟩, ⟨2, (some 111), none, .mks 28 2 [.int .u16 0] (.t 110) (.t 110), []⟩, ⟨3, (some 10), none, .mov (.t 111), []⟩]) (.seq (.seq (.ops [⟨0, (some 11), none, .mov (.c (.int .i64 0)), []⟩]) (.block 4 (.loop (.seq (.seq (.ops [⟨0, (some 112), none, .mov (.t 11), []⟩, ⟨1, (some 113), none, .mov (.t 6), []⟩, ⟨2, (some 114), none, .len (.t 113), []⟩, ⟨3, (some 115), none, .bin .lss (.t 112) (.t 114), []⟩]) (.ite (.t 115) .skip (.exit 4))) (.seq (.block 5 (.seq (.seq (.dops [⟨0, (some 118), none, .fad 1 (.t 1), []⟩, ⟨1, (some 119), none, .ld (.t 118), []⟩, ⟨2, (some 120), none, .mov (.t 4), []⟩, ⟨3, (some 121), none, .mov (.t 6), []⟩, ⟨4, (some 122), none, .mov (.t 11), []⟩, ⟨5, (some 123), none, .ixs 1 (.t 121) (.t 122), []⟩, ⟨6, (some 124), none, .ld (.t 123), []⟩, ⟨7, (some 125), none, .call (.c (.func (.func 19) #[] #[])) [.t 119, .t 120, .t 124], []⟩, ⟨8, (some 126), none, .mov (.t 7), []⟩, ⟨9, (some 127), none, .mov (.t 11), []⟩, ⟨10, (some 128), none, .ixs 1 (.t 126) (.t 127), []⟩, ⟨11, (some 129), none, .ld (.t 128), [7]⟩, ⟨12, (some 130), none, .bin .neq (.t 125) (.t 129), []⟩]) (.ite (.t 130) (.seq (.ops [⟨0, (some 2), none, .mov (.c (.bool false)), []⟩]) .ret) .skip)) (.dops [⟨0, (some 131), none, .mov (.t 10), []⟩, ⟨1, (some 132), none, .mov (.t 11), []⟩, ⟨2, (some 133), none, .fad 1 (.t 1), []⟩, ⟨3, (some 134), none, .ld (.t 133), []⟩, ⟨4, (some 135), none, .mov (.t 7), []⟩, ⟨5, (some 136), none, .mov (.t 6), []⟩, ⟨6, (some 137), none, .mov (.t 11), []⟩, ⟨7, (some 138), none, .ixs 1 (.t 136) (.t 137), []⟩, ⟨8, (some 139), none, .ld (.t 138), []⟩, ⟨9, (some 140), none, .call (.c (.func (.func 19) #[] #[])) [.t 134, .t 135, .t 139], []⟩, ⟨10, (some 141), none, .ixs 1 (.t 131) (.t 132), []⟩, ⟨11, none, none, .st (.t 141) (.t 140), []⟩]))) (.ops [⟨0, (some 116), none, .mov (.t 11), []⟩, ⟨1, (some 117), none, .bin .add (.t 116) (.c (.int .i64 1)), []⟩, ⟨2, (some 11), none, .mov (.t 117), []⟩])))))) (.seq (.ops [⟨0, (some 143), none, .ldn 2 (.t 3), []⟩, ⟨1, (some 144), none, .fad 1 (.t 1), []⟩, ⟨2, (some 145), none, .ld (.t 144), []⟩, ⟨3, (some 146), none, .mov (.t 6), []⟩, ⟨4, (some 147), none, .mov (.t 10), []⟩, ⟨5, (some 148), none, .call (.c (.func (.func 20) #[] #[])) [.t 143, .t 145, .t 146, .t 147], []⟩, ⟨6, (some 142), none, .mov (.t 148), []⟩, ⟨7, (some 149), none, .ext (.t 142) 0, []⟩, ⟨8, (some 150), none, .ext (.t 142) 1, []⟩, ⟨9, (some 12), none, .mov (.t 149), []⟩, ⟨10, (some 5), none, .mov (.t 150), []⟩]) (.seq (.ops [⟨0, (some 151), none, .mov (.t 5), []⟩, ⟨1, (some 152), none, .bin .eql (.t 151) (.c (.int .i64 0)), []⟩, ⟨2, (some 153), none, .mov (.t 152), []⟩, ⟨3, (some 154), (some (153, true)), .mov (.t 12), []⟩, ⟨4, (some 155), (some (153, true)), .ldn 2 (.t 3), []⟩, ⟨5, (some 156), (some (153, true)), .fad 1 (.t 1), []⟩, ⟨6, (some 157), (some (153, true)), .ld (.t 156), []⟩, ⟨7, (some 158), (some (153, true)), .mov (.t 7), []⟩, ⟨8, (some 159), (some (153, true)), .call (.c (.func (.func 22) #[] #[])) [.t 155, .t 157, .t 158], []⟩, ⟨9, (some 160), (some (153, true)), .call (.c (.func (.func 15) #[] #[])) [.t 154, .t 159], []⟩, ⟨10, (some 161), none, .pick (.t 153) (.t 160) (.c (.bool false)), []⟩, ⟨11, (some 2), none, .mov (.t 161), []⟩]) .ret))))))))))))))
attribute [irreducible] c_culletlaw04_PolysThrough
theorem run_culletlaw04_PolysThrough {args : List Value} {w : World} {K : Value → World → Prop} (hn : args.length ≤ 162) (h : WP Try.prog c_culletlaw04_PolysThrough (endQ [.t 2] K) (initT args) w) : CallV Try.prog 5 args w K :=
  call_of follows Try.func5 (by kernel_rfl) (by kernel_rfl) hn h
end Go.Proofs.Ytcdagkcchfibjaa.Fw
namespace Go.Proofs.Ytcdagkcchfibjaa.Fw
open Go Go.Fw
section
variable {n_ : Nat} {u_ : List Nat} {rs_ : List RN} {es_ : List EN}
theorem row6e_1 {w : World} {b : Nat} {a0 a1 a2 a3 a4 a5 : Value} (h : Row w b [a0, a1, a2, a3, a4, a5]) (P : Program) (d : Option Nat) (l : List D) (Q : T → World → Prop) (t : T) : XE P n_ (.ld (.c (.pointer (some ⟨b, 1, none⟩)))) u_ d l Q rs_ es_ t w = (okE P (.ld (.c (.pointer (some ⟨b, 1, none⟩)))) a1 u_ es_ ∧ WE P Q l ((n_, .ld (.c (.pointer (some ⟨b, 1, none⟩))), a1) :: rs_) es_ (put t d a1) w) := by
  have := h.Eld (o := 1) (by simp) P d l Q t (n_ := n_) (u_ := u_) (rs_ := rs_) (es_ := es_)
  exact this
theorem row6s_1 {w : World} {b : Nat} {a0 a1 a2 a3 a4 a5 : Value} (h : Row w b [a0, a1, a2, a3, a4, a5]) (P : Program) : Fw.sees P (.ld (.c (.pointer (some ⟨b, 1, none⟩)))) w a1 = True := h.sees (o := 1) (by simp) P
end
end Go.Proofs.Ytcdagkcchfibjaa.Fw

namespace Go.Proofs.Ytcdagkcchfibjaa.Fw
open Go Go.Fw
theorem culletlaw04_PolysThrough_w_spec (w : World) (k n : Int) (F G : Value) (LF LG : List (El 16)) (X : El 16) (hF : Sl w F LF) (hG : Sl w G LG) (hlF : LF.length ≤ 70368744175616) (hlG : LG.length ≤ 70368744175616) :
    CallV Try.prog 5 [.agg #[.int .i64 k, .bool true, F, G, .int .u16 (X.v.toNat : Int), .int .i64 n]] w fun v w' => v = .bool true ∧ RowKit.Below w.heap.size w w' := by
  have dt : ∀ e : Int, decide (e = e) = true := fun e => decide_eq_true rfl
  refine run_culletlaw04_PolysThrough (by simp) ?_
  simp only [c_culletlaw04_PolysThrough, WS, List.getElem_cons_zero, List.getElem_cons_succ, Option.isNone_some, Option.isNone_none, List.getD_cons_zero, List.getD_cons_succ, I.at, atL, atO, atP, evp, evs, retV, ↓reduceIte, Nat.reduceEqDiff, reduceCtorEq]
  refine X_box fun bo w1 hro hbo hB => ?_
  have hro : Row w1 bo [.int .i64 k, .bool true, F, G, .int .u16 (X.v.toNat : Int), .int .i64 n] := hro
  have B := hB
  have hF := hF.up hB
  have hG := hG.up hB
  clear hB hbo
  simp (maxSteps := 1000000) (disch := omega) only [WS, List.getElem_cons_zero, List.getElem_cons_succ, Option.isNone_some, Option.isNone_none, List.getD_cons_zero, List.getD_cons_succ, I.at, atL, atO, atP, evp, evs, retV, ↓reduceIte, Nat.reduceEqDiff, reduceCtorEq, AS]
  refine X_call0 ((culletlaw04_both_spec w1).mono ?_)
  rintro _ w2 ⟨rb, rw, rfl, hb, hw, hB⟩
  have hF := hF.up hB
  have hG := hG.up hB
  have hro := hro.up hB
  have B := B.trans (hB.mono B.size)
  clear hB
  simp (maxSteps := 1000000) (disch := omega) only [WS, List.getElem_cons_zero, List.getElem_cons_succ, Option.isNone_some, Option.isNone_none, List.getD_cons_zero, List.getD_cons_succ, I.at, atL, atO, atP, evp, evs, retV, ↓reduceIte, Nat.reduceEqDiff, reduceCtorEq, AS]
  refine X_alloc fun b3 w0 hr3 hb3 hB => ?_
  have s8 : scal rb = true := by obtain ⟨_, _, _, rfl, _⟩ := hb; rfl
  have s16 : scal rw = true := by obtain ⟨_, _, _, rfl, _⟩ := hw; rfl
  simp (maxSteps := 1000000) (disch := omega) only [WS, List.getElem_cons_zero, List.getElem_cons_succ, Option.isNone_some, Option.isNone_none, List.getD_cons_zero, List.getD_cons_succ, I.at, atL, atO, atP, evp, evs, retV, ↓reduceIte, Nat.reduceEqDiff, reduceCtorEq, AS]
  refine Row.Xstn (vs := [rb, rw]) hr3 rfl (by simp [s8, s16]) (by simp) fun w3 hr hg => ?_
  have hB := Below.row hB hb3 hg
  clear hg hr3 hb3 s8 s16
  have hF := hF.up hB
  have hG := hG.up hB
  have hro := hro.up hB
  have hb := hb.up hB
  have hw := hw.up hB
  have B := B.trans (hB.mono B.size)
  clear hB
  simp (maxSteps := 1000000) (disch := omega) only [WS, List.getElem_cons_zero, List.getElem_cons_succ, Option.isNone_some, Option.isNone_none, List.getD_cons_zero, List.getD_cons_succ, I.at, atL, atO, atP, evp, evs, retV, ↓reduceIte, Nat.reduceEqDiff, reduceCtorEq, AS, hr.Xldn (n := 2) rfl]
  refine X_bsl (zs := [(⟨0⟩ : El 16), ⟨1⟩]) (by rfl) (by rfl) fun c1 w4 hc1 hB => ?_
  have hc1 := hc1.sl
  have hF := hF.up hB
  have hG := hG.up hB
  have hro := hro.up hB
  have hb := hb.up hB
  have hw := hw.up hB
  have hr := hr.up hB
  have B := B.trans (hB.mono B.size)
  clear hB
  simp (maxSteps := 1000000) (disch := omega) only [WS, List.getElem_cons_zero, List.getElem_cons_succ, Option.isNone_some, Option.isNone_none, List.getD_cons_zero, List.getD_cons_succ, I.at, atL, atO, atP, evp, evs, retV, ↓reduceIte, Nat.reduceEqDiff, reduceCtorEq, AS]
  refine X_bsl (zs := [(⟨5⟩ : El 16), ⟨7⟩]) (by rfl) (by rfl) fun c2 w5 hc2 hB => ?_
  have hc2 := hc2.sl
  have hF := hF.up hB
  have hG := hG.up hB
  have hro := hro.up hB
  have hb := hb.up hB
  have hw := hw.up hB
  have hr := hr.up hB
  have hc1 := hc1.up hB
  have B := B.trans (hB.mono B.size)
  clear hB
  simp (maxSteps := 1000000) (disch := omega) only [WS, List.getElem_cons_zero, List.getElem_cons_succ, Option.isNone_some, Option.isNone_none, List.getD_cons_zero, List.getD_cons_succ, I.at, atL, atO, atP, evp, evs, retV, ↓reduceIte, Nat.reduceEqDiff, reduceCtorEq, AS, hr.Xldn (n := 2) rfl]
  refine X_call0 ((culletlaw04_Rings_interpolate_b_spec w5 rb rw c1 c2 _ _ hb hw hc1 hc2 (by simp) (by simp)).mono ?_)
  rintro _ w6 ⟨hB, ⟨-, -, -, -, s0, m0, rfl, o0, t0, q0, -⟩ | ⟨_, e0, rfl, -, ⟨-, -, h9, -⟩ | ⟨-, -, -, h9, -⟩ | ⟨h9, -⟩⟩⟩
  rotate_left
  · exact absurd rfl h9
  · exact absurd th_nd h9
  · exact absurd ⟨by simp, by simp⟩ h9
  have o0 := o0.sl
  have e0 := th_b m0 t0 q0
  have hF := hF.up hB
  have hG := hG.up hB
  have hro := hro.up hB
  have hb := hb.up hB
  have hw := hw.up hB
  have hr := hr.up hB
  have B := B.trans (hB.mono B.size)
  clear hB
  simp (maxSteps := 1000000) (disch := omega) only [WS, List.getElem_cons_zero, List.getElem_cons_succ, Option.isNone_some, Option.isNone_none, List.getD_cons_zero, List.getD_cons_succ, I.at, atL, atO, atP, evp, evs, retV, ↓reduceIte, Nat.reduceEqDiff, reduceCtorEq, AS, dt]
  refine X_bsl (zs := [(⟨5⟩ : El 16), ⟨2⟩]) (by rfl) (by rfl) fun c3 w7 hc3 hB => ?_
  have hc3 := hc3.sl
  have hF := hF.up hB
  have hG := hG.up hB
  have hro := hro.up hB
  have hb := hb.up hB
  have hw := hw.up hB
  have hr := hr.up hB
  have o0 := o0.up hB
  have B := B.trans (hB.mono B.size)
  clear hB
  simp (maxSteps := 1000000) (disch := omega) only [WS, List.getElem_cons_zero, List.getElem_cons_succ, Option.isNone_some, Option.isNone_none, List.getD_cons_zero, List.getD_cons_succ, I.at, atL, atO, atP, evp, evs, retV, ↓reduceIte, Nat.reduceEqDiff, reduceCtorEq, AS]
  refine X_call0 ((culletlaw04_same_spec w7 s0 c3 _ _ o0 hc3 (by rw [e0]; simp) (by simp)).mono ?_)
  rintro _ w8 ⟨rfl, hk⟩
  have hB := hk.1
  have hF := hF.up hB
  have hG := hG.up hB
  have hro := hro.up hB
  have hb := hb.up hB
  have hw := hw.up hB
  have hr := hr.up hB
  have B := B.trans (hB.mono B.size)
  clear hB
  rw [decide_eq_true e0]
  clear hk hc3 o0 hc1 hc2
  simp (maxSteps := 1000000) (disch := omega) only [WS, List.getElem_cons_zero, List.getElem_cons_succ, Option.isNone_some, Option.isNone_none, List.getD_cons_zero, List.getD_cons_succ, I.at, atL, atO, atP, evp, evs, retV, ↓reduceIte, Nat.reduceEqDiff, reduceCtorEq, AS, hro.Xld (show 1 < _ by simp), hro.Xld (show 2 < _ by simp)]
  refine X_call0 ((culletlaw04_cut_w_spec w8 F LF hF hlF).mono ?_)
  rintro P w9 ⟨hP, hB⟩
  have hP := hP.sl
  have hG := hG.up hB
  have hro := hro.up hB
  have hb := hb.up hB
  have hw := hw.up hB
  have hr := hr.up hB
  have B := B.trans (hB.mono B.size)
  clear hB
  clear hF
  generalize hqQ : LF.map lo16 = Q at hP
  have lP : (Q.map em16).length = Q.length := List.length_map _
  have bQ : Q.length ≤ 70368744175616 := by rw [← hqQ, List.length_map]; exact hlF
  clear hqQ
  simp (maxSteps := 1000000) (disch := omega) only [WS, List.getElem_cons_zero, List.getElem_cons_succ, Option.isNone_some, Option.isNone_none, List.getD_cons_zero, List.getD_cons_succ, I.at, atL, atO, atP, evp, evs, retV, ↓reduceIte, Nat.reduceEqDiff, reduceCtorEq, AS, hro.Xld (show 1 < _ by simp), hro.Xld (show 3 < _ by simp)]
  refine X_call0 ((culletlaw04_cut_w_spec w9 G LG hG hlG).mono ?_)
  rintro V w10 ⟨hV, hB⟩
  have hV := hV.sl
  have hro := hro.up hB
  have hb := hb.up hB
  have hw := hw.up hB
  have hr := hr.up hB
  have hP := hP.up hB
  have B := B.trans (hB.mono B.size)
  clear hB
  clear hG
  generalize hqR : LG.map lo16 = R at hV
  have lV : (R.map em16).length = R.length := List.length_map _
  have bR : R.length ≤ 70368744175616 := by rw [← hqR, List.length_map]; exact hlG
  clear hqR
  by_cases hbig : 64 < Q.length
  · simp (maxSteps := 1000000) (disch := omega) only [WS, List.getElem_cons_zero, List.getElem_cons_succ, Option.isNone_some, Option.isNone_none, List.getD_cons_zero, List.getD_cons_succ, I.at, atL, atO, atP, evp, evs, retV, ↓reduceIte, Nat.reduceEqDiff, reduceCtorEq, AS, hP.Xlen, lP]
    exact B
  by_cases hbig2 : 1024 < R.length
  · simp (maxSteps := 1000000) (disch := omega) only [WS, List.getElem_cons_zero, List.getElem_cons_succ, Option.isNone_some, Option.isNone_none, List.getD_cons_zero, List.getD_cons_succ, I.at, atL, atO, atP, evp, evs, retV, ↓reduceIte, Nat.reduceEqDiff, reduceCtorEq, AS, hP.Xlen, lP, hV.Xlen, lV]
    exact B
  simp (maxSteps := 1000000) (disch := omega) only [WS, List.getElem_cons_zero, List.getElem_cons_succ, Option.isNone_some, Option.isNone_none, List.getD_cons_zero, List.getD_cons_succ, I.at, atL, atO, atP, evp, evs, retV, ↓reduceIte, Nat.reduceEqDiff, reduceCtorEq, AS, hP.Xlen, lP, hV.Xlen, lV, hr.Xldn (n := 2) rfl, hro.Xld (show 1 < _ by simp)]
  refine X_call0 ((culletlaw04_Rings_interpolate_w_spec w10 rb rw P V (Q.map em16) (R.map em16) hb hw hP hV (by omega) (by omega)).mono ?_)
  rw [lo16_map_em16, lo16_map_em16, lP, lV]
  rintro vv w11 ⟨hB, hres⟩
  have hro := hro.up hB
  have hb := hb.up hB
  have hw := hw.up hB
  have hr := hr.up hB
  have hP := hP.up hB
  have hV := hV.up hB
  have B := B.trans (hB.mono B.size)
  clear hB
  by_cases hlen : R.length = Q.length
  rotate_left
  · rcases hres with ⟨-, -, h9, -⟩ | ⟨sp, e, rfl, op, ⟨-, -, -, rfl⟩ | ⟨-, -, h9, -⟩ | ⟨h9, -⟩⟩
    · exact absurd h9 hlen
    · have hne : (Q.length : Int) ≠ (R.length : Int) := fun e => hlen (by omega)
      simp (maxSteps := 1000000) (disch := omega) only [WS, List.getElem_cons_zero, List.getElem_cons_succ, Option.isNone_some, Option.isNone_none, List.getD_cons_zero, List.getD_cons_succ, I.at, atL, atO, atP, evp, evs, retV, ↓reduceIte, Nat.reduceEqDiff, reduceCtorEq, AS, hP.Xlen, lP, hV.Xlen, lV, op.sl.Xlen, List.length_nil, show decide (((0 : Nat) : Int) = 0) = true from rfl, show decide ((6 : Int) = 6) = true from rfl]
      exact B
    · exact absurd h9 hlen
    · exact absurd ⟨by omega, by omega⟩ h9
  have gQ : ∀ j (h : j < (Q.map em16).length), (Q.map em16)[j] = em16 (Q.getD j 0) := fun j h => by
    rw [List.getElem_map, List.getD_eq_getElem?_getD, List.getElem?_eq_getElem (by omega)]; rfl
  have gR : ∀ j (h : j < (R.map em16).length), (R.map em16)[j] = em16 (R.getD j 0) := fun j h => by
    rw [List.getElem_map, List.getD_eq_getElem?_getD, List.getElem?_eq_getElem (by omega)]; rfl
  obtain ⟨sp, e, pl, rfl, op, hcase⟩ : ∃ (sp : Value) (e : Int) (pl : List (El 16)), vv = .tuple #[sp, .int .i64 e] ∧ Sl w11 sp pl ∧ ((e = 0 ∧ (∀ a b, a < Q.length → b < Q.length → Q.getD a 0 = Q.getD b 0 → a = b) ∧ ∃ m, pl = m.map em16 ∧ tr m = m ∧ co m = nw (fun j => Q.getD j 0) (fun j => R.getD j 0) 0 Q.length ∧ m.length ≤ Q.length) ∨ (e = 41 ∧ pl = [] ∧ ¬ ∀ a b, a < Q.length → b < Q.length → Q.getD a 0 = Q.getD b 0 → a = b)) := by
    rcases hres with ⟨-, -, -, g3, s, m, rfl, om, q0, q1, q2⟩ | ⟨sp, e, rfl, op, ⟨-, -, h9, -⟩ | ⟨-, -, -, h9, rfl⟩ | ⟨h9, -⟩⟩
    · exact ⟨s, 0, _, rfl, om.sl, Or.inl ⟨rfl, g3, m, rfl, q0, q1, q2⟩⟩
    · exact absurd hlen h9
    · exact ⟨sp, 41, [], rfl, op.sl, Or.inr ⟨rfl, rfl, h9⟩⟩
    · exact absurd ⟨by omega, by omega⟩ h9
  clear hres
  simp (maxSteps := 1000000) (disch := omega) only [WS, List.getElem_cons_zero, List.getElem_cons_succ, Option.isNone_some, Option.isNone_none, List.getD_cons_zero, List.getD_cons_succ, I.at, atL, atO, atP, evp, evs, retV, ↓reduceIte, Nat.reduceEqDiff, reduceCtorEq, AS, hP.Xlen, lP, hV.Xlen, lV, hlen, dt]
  refine loop_of (fun t w' => RowKit.Below w11.heap.size w11 w' ∧ t 1 = .pointer (some ⟨bo, 0, none⟩) ∧ t 3 = .pointer (some ⟨b3, 0, none⟩) ∧ t 4 = sp ∧ t 5 = .int .i64 e ∧ t 6 = P ∧ t 7 = V ∧ ∃ i : Nat, t 8 = .int .i64 (i : Int) ∧ i ≤ Q.length ∧ ∀ a b, a < i → b < i → Q.getD a 0 = Q.getD b 0 → a = b)
    (fun t _ => Q.length - (toI (t 8)).toNat) ⟨RowKit.Below.refl _ _, by simp only [WS, List.getElem_cons_zero, List.getElem_cons_succ, Option.isNone_some, Option.isNone_none, List.getD_cons_zero, List.getD_cons_succ, I.at, atL, atO, atP, evp, evs, retV, ↓reduceIte, Nat.reduceEqDiff, reduceCtorEq], by simp only [WS, List.getElem_cons_zero, List.getElem_cons_succ, Option.isNone_some, Option.isNone_none, List.getD_cons_zero, List.getD_cons_succ, I.at, atL, atO, atP, evp, evs, retV, ↓reduceIte, Nat.reduceEqDiff, reduceCtorEq], by simp only [WS, List.getElem_cons_zero, List.getElem_cons_succ, Option.isNone_some, Option.isNone_none, List.getD_cons_zero, List.getD_cons_succ, I.at, atL, atO, atP, evp, evs, retV, ↓reduceIte, Nat.reduceEqDiff, reduceCtorEq], by simp only [WS, List.getElem_cons_zero, List.getElem_cons_succ, Option.isNone_some, Option.isNone_none, List.getD_cons_zero, List.getD_cons_succ, I.at, atL, atO, atP, evp, evs, retV, ↓reduceIte, Nat.reduceEqDiff, reduceCtorEq], by simp only [WS, List.getElem_cons_zero, List.getElem_cons_succ, Option.isNone_some, Option.isNone_none, List.getD_cons_zero, List.getD_cons_succ, I.at, atL, atO, atP, evp, evs, retV, ↓reduceIte, Nat.reduceEqDiff, reduceCtorEq], by simp only [WS, List.getElem_cons_zero, List.getElem_cons_succ, Option.isNone_some, Option.isNone_none, List.getD_cons_zero, List.getD_cons_succ, I.at, atL, atO, atP, evp, evs, retV, ↓reduceIte, Nat.reduceEqDiff, reduceCtorEq], 0, rfl, by omega, fun a b ha => by omega⟩ ?_
  rintro t w12 ⟨C, t1, t3, t4, t5, t6, t7, i, t8, hi, hnd⟩
  by_cases hil : i < Q.length
  · simp (maxSteps := 1000000) (disch := omega) only [WS, List.getElem_cons_zero, List.getElem_cons_succ, Option.isNone_some, Option.isNone_none, List.getD_cons_zero, List.getD_cons_succ, I.at, atL, atO, atP, evp, evs, retV, ↓reduceIte, Nat.reduceEqDiff, reduceCtorEq, AS, t1, t3, t4, t5, t6, t7, t8, (hP.up C).Xlen, lP]
    refine loop_of (fun t w' => RowKit.Below w11.heap.size w11 w' ∧ t 1 = .pointer (some ⟨bo, 0, none⟩) ∧ t 3 = .pointer (some ⟨b3, 0, none⟩) ∧ t 4 = sp ∧ t 5 = .int .i64 e ∧ t 6 = P ∧ t 7 = V ∧ t 8 = .int .i64 (i : Int) ∧ ∃ j : Nat, t 9 = .int .i64 (j : Int) ∧ j ≤ i ∧ ∀ a, a < j → Q.getD i 0 ≠ Q.getD a 0)
      (fun t _ => i - (toI (t 9)).toNat) ⟨C, by simp only [WS, List.getElem_cons_zero, List.getElem_cons_succ, Option.isNone_some, Option.isNone_none, List.getD_cons_zero, List.getD_cons_succ, I.at, atL, atO, atP, evp, evs, retV, ↓reduceIte, Nat.reduceEqDiff, reduceCtorEq]; exact t1, by simp only [WS, List.getElem_cons_zero, List.getElem_cons_succ, Option.isNone_some, Option.isNone_none, List.getD_cons_zero, List.getD_cons_succ, I.at, atL, atO, atP, evp, evs, retV, ↓reduceIte, Nat.reduceEqDiff, reduceCtorEq]; exact t3, by simp only [WS, List.getElem_cons_zero, List.getElem_cons_succ, Option.isNone_some, Option.isNone_none, List.getD_cons_zero, List.getD_cons_succ, I.at, atL, atO, atP, evp, evs, retV, ↓reduceIte, Nat.reduceEqDiff, reduceCtorEq]; exact t4, by simp only [WS, List.getElem_cons_zero, List.getElem_cons_succ, Option.isNone_some, Option.isNone_none, List.getD_cons_zero, List.getD_cons_succ, I.at, atL, atO, atP, evp, evs, retV, ↓reduceIte, Nat.reduceEqDiff, reduceCtorEq]; exact t5, by simp only [WS, List.getElem_cons_zero, List.getElem_cons_succ, Option.isNone_some, Option.isNone_none, List.getD_cons_zero, List.getD_cons_succ, I.at, atL, atO, atP, evp, evs, retV, ↓reduceIte, Nat.reduceEqDiff, reduceCtorEq]; exact t6, by simp only [WS, List.getElem_cons_zero, List.getElem_cons_succ, Option.isNone_some, Option.isNone_none, List.getD_cons_zero, List.getD_cons_succ, I.at, atL, atO, atP, evp, evs, retV, ↓reduceIte, Nat.reduceEqDiff, reduceCtorEq]; exact t7, by simp only [WS, List.getElem_cons_zero, List.getElem_cons_succ, Option.isNone_some, Option.isNone_none, List.getD_cons_zero, List.getD_cons_succ, I.at, atL, atO, atP, evp, evs, retV, ↓reduceIte, Nat.reduceEqDiff, reduceCtorEq]; exact t8, 0, rfl, by omega, fun a ha => by omega⟩ ?_
    clear t1 t3 t4 t5 t6 t7 t8 C
    rintro t w13 ⟨C, t1, t3, t4, t5, t6, t7, t8, j, t9, hj, hne⟩
    by_cases hji : j < i
    · have p1 := (hP.up C).drew
      have op := op.up C
      have li : i < (Q.map em16).length := by omega
      have lj : j < (Q.map em16).length := by omega
      simp (maxSteps := 1000000) (disch := omega) only [WS, List.getElem_cons_zero, List.getElem_cons_succ, Option.isNone_some, Option.isNone_none, List.getD_cons_zero, List.getD_cons_succ, I.at, atL, atO, atP, evp, evs, retV, ↓reduceIte, Nat.reduceEqDiff, reduceCtorEq, AS, t1, t3, t4, t5, t6, t7, t8, t9]
      refine WP_dops ?_
      by_cases heq : Q.getD i 0 = Q.getD j 0
      · have hnn : ¬ ∀ a b, a < Q.length → b < Q.length → Q.getD a 0 = Q.getD b 0 → a = b := fun h => by have := h i j hil (by omega) heq; omega
        rcases hcase with ⟨-, h9, -⟩ | ⟨rfl, rfl, -⟩
        · exact absurd h9 hnn
        simp (maxSteps := 1000000) (disch := omega) only [ES, List.mem_cons, List.not_mem_nil, implies_true, forall_const, WS, List.getElem_cons_zero, List.getElem_cons_succ, Option.isNone_some, Option.isNone_none, List.getD_cons_zero, List.getD_cons_succ, I.at, atL, atO, atP, evp, evs, retV, ↓reduceIte, Nat.reduceEqDiff, reduceCtorEq, AS, t1, t3, t4, t5, t6, t7, t8, t9, p1.Eix li, p1.Eld li, p1.Eix lj, p1.Eld lj, gQ i li, gQ j lj, cell_e16, heq, dt]
        simp (maxSteps := 1000000) (disch := omega) only [WS, List.getElem_cons_zero, List.getElem_cons_succ, Option.isNone_some, Option.isNone_none, List.getD_cons_zero, List.getD_cons_succ, I.at, atL, atO, atP, evp, evs, retV, ↓reduceIte, Nat.reduceEqDiff, reduceCtorEq, AS, t1, t3, t4, t5, t6, t7, t8, t9, op.Xlen, op.drew.Xlen, List.length_nil, dt, show decide (((0 : Nat) : Int) = 0) = true from rfl]
        exact B.trans ((C.trans ((bel_drew w13).mono C.size)).mono B.size)
      · have hev : ((em16 (Q.getD i 0)).v.toNat : Int) ≠ ((em16 (Q.getD j 0)).v.toNat : Int) := fun e => heq (em16_inj (El.ext (BitVec.eq_of_toNat_eq (by omega))))
        simp (maxSteps := 1000000) (disch := omega) only [ES, List.mem_cons, List.not_mem_nil, implies_true, forall_const, WS, List.getElem_cons_zero, List.getElem_cons_succ, Option.isNone_some, Option.isNone_none, List.getD_cons_zero, List.getD_cons_succ, I.at, atL, atO, atP, evp, evs, retV, ↓reduceIte, Nat.reduceEqDiff, reduceCtorEq, AS, t1, t3, t4, t5, t6, t7, t8, t9, p1.Eix li, p1.Eld li, p1.Eix lj, p1.Eld lj, gQ i li, gQ j lj, cell_e16]
        refine ⟨⟨C.trans ((bel_drew w13).mono C.size), j + 1, rfl, by omega, fun a ha => ?_⟩, by omega⟩
        by_cases h1 : a = j
        · rw [h1]; exact heq
        · exact hne a (by omega)
    · obtain rfl : j = i := by omega
      simp (maxSteps := 1000000) (disch := omega) only [WS, List.getElem_cons_zero, List.getElem_cons_succ, Option.isNone_some, Option.isNone_none, List.getD_cons_zero, List.getD_cons_succ, I.at, atL, atO, atP, evp, evs, retV, ↓reduceIte, Nat.reduceEqDiff, reduceCtorEq, AS, t1, t3, t4, t5, t6, t7, t8, t9]
      refine ⟨⟨C, j + 1, rfl, by omega, fun a b ha hb e => ?_⟩, by omega⟩
      by_cases h1 : a = j
      · by_cases h2 : b = j
        · rw [h1, h2]
        · exact absurd (by rw [← h1]; exact e) (hne b (by omega))
      · by_cases h2 : b = j
        · exact absurd (by rw [← h2]; exact e.symm) (hne a (by omega))
        · exact hnd a b (by omega) (by omega) e
  obtain rfl : i = Q.length := by omega
  rcases hcase with ⟨rfl, hnn, m, rfl, tm, cm, lm⟩ | ⟨-, -, h9⟩
  rotate_left
  · exact absurd hnd h9
  have B := B.trans (C.mono B.size)
  have hP := hP.up C
  have hV := hV.up C
  have op := op.up C
  have hro := hro.up C
  have hb := hb.up C
  have hw := hw.up C
  have hr := hr.up C
  have lme : (m.map em16).length = m.length := List.length_map _
  have hnt : (m.map em16).length = tln (m.map em16) := by rw [tln_em16, lme]; exact len_tr tm
  simp (maxSteps := 1000000) (disch := omega) only [WS, List.getElem_cons_zero, List.getElem_cons_succ, Option.isNone_some, Option.isNone_none, List.getD_cons_zero, List.getD_cons_succ, I.at, atL, atO, atP, evp, evs, retV, ↓reduceIte, Nat.reduceEqDiff, reduceCtorEq, AS, t1, t3, t4, t5, t6, t7, t8, hP.Xlen, lP, dt]
  refine X_call0 ((culletlaw04_neat_spec w12 sp (m.map em16) op (by omega)).mono ?_)
  rintro _ w13 ⟨rfl, rfl⟩
  rw [decide_eq_true hnt]
  simp (maxSteps := 1000000) (disch := omega) only [WS, List.getElem_cons_zero, List.getElem_cons_succ, Option.isNone_some, Option.isNone_none, List.getD_cons_zero, List.getD_cons_succ, I.at, atL, atO, atP, evp, evs, retV, ↓reduceIte, Nat.reduceEqDiff, reduceCtorEq, AS, t1, t3, t4, t5, t6, t7, t8, hP.Xlen, lP, op.Xlen, lme]
  refine X_mks (x := (0 : El 16)) (by simp only [maxBytes]; omega) (by omega) fun bk w14 ob hC => ?_
  simp (maxSteps := 1000000) (disch := omega) only [WS, List.getElem_cons_zero, List.getElem_cons_succ, Option.isNone_some, Option.isNone_none, List.getD_cons_zero, List.getD_cons_succ, I.at, atL, atO, atP, evp, evs, retV, ↓reduceIte, Nat.reduceEqDiff, reduceCtorEq, AS, t1, t3, t4, t5, t6, t7, t8]
  refine loop_of (fun t w' => RowKit.Below w13.heap.size w13 w' ∧ t 1 = .pointer (some ⟨bo, 0, none⟩) ∧ t 3 = .pointer (some ⟨b3, 0, none⟩) ∧ t 4 = sp ∧ t 6 = P ∧ t 7 = V ∧ t 10 = bk ∧ ∃ (i : Nat) (bl : List (El 16)), t 11 = .int .i64 (i : Int) ∧ i ≤ Q.length ∧ Ow w13.heap.size w' bk bl ∧ bl.length = Q.length ∧ ∀ j, j < i → bl.getD j 0 = em16 (evl R (Q.getD j 0)))
    (fun t _ => Q.length - (toI (t 11)).toNat) ⟨hC, by simp only [WS, List.getElem_cons_zero, List.getElem_cons_succ, Option.isNone_some, Option.isNone_none, List.getD_cons_zero, List.getD_cons_succ, I.at, atL, atO, atP, evp, evs, retV, ↓reduceIte, Nat.reduceEqDiff, reduceCtorEq]; exact t1, by simp only [WS, List.getElem_cons_zero, List.getElem_cons_succ, Option.isNone_some, Option.isNone_none, List.getD_cons_zero, List.getD_cons_succ, I.at, atL, atO, atP, evp, evs, retV, ↓reduceIte, Nat.reduceEqDiff, reduceCtorEq]; exact t3, by simp only [WS, List.getElem_cons_zero, List.getElem_cons_succ, Option.isNone_some, Option.isNone_none, List.getD_cons_zero, List.getD_cons_succ, I.at, atL, atO, atP, evp, evs, retV, ↓reduceIte, Nat.reduceEqDiff, reduceCtorEq]; exact t4, by simp only [WS, List.getElem_cons_zero, List.getElem_cons_succ, Option.isNone_some, Option.isNone_none, List.getD_cons_zero, List.getD_cons_succ, I.at, atL, atO, atP, evp, evs, retV, ↓reduceIte, Nat.reduceEqDiff, reduceCtorEq]; exact t6, by simp only [WS, List.getElem_cons_zero, List.getElem_cons_succ, Option.isNone_some, Option.isNone_none, List.getD_cons_zero, List.getD_cons_succ, I.at, atL, atO, atP, evp, evs, retV, ↓reduceIte, Nat.reduceEqDiff, reduceCtorEq]; exact t7, by simp only [WS, List.getElem_cons_zero, List.getElem_cons_succ, Option.isNone_some, Option.isNone_none, List.getD_cons_zero, List.getD_cons_succ, I.at, atL, atO, atP, evp, evs, retV, ↓reduceIte, Nat.reduceEqDiff, reduceCtorEq], 0, _, rfl, by omega, ob, List.length_replicate .., fun j hj => by omega⟩ ?_
  clear t1 t3 t4 t5 t6 t7 t8 hC ob
  rintro t w15 ⟨C, t1, t3, t4, t6, t7, t10, i, bl, t11, hi, ob, lbl, hbl⟩
  by_cases hil : i < Q.length
  · have li : i < (Q.map em16).length := by omega
    have lr : i < (R.map em16).length := by omega
    have p1 := (hP.up C).drew
    have v1 := (hV.up C).drew
    have r1 := (hro.up C).drew
    have ev : evl m (Q.getD i 0) = R.getD i 0 := nw_interp hnn cm i hil
    simp (maxSteps := 1000000) (disch := omega) only [WS, List.getElem_cons_zero, List.getElem_cons_succ, Option.isNone_some, Option.isNone_none, List.getD_cons_zero, List.getD_cons_succ, I.at, atL, atO, atP, evp, evs, retV, ↓reduceIte, Nat.reduceEqDiff, reduceCtorEq, AS, t1, t3, t4, t6, t7, t10, t11, (hP.up C).Xlen, lP]
    refine WP_dops ?_
    simp (maxSteps := 1000000) (disch := omega) only [ES, List.mem_cons, List.not_mem_nil, implies_true, forall_const, WS, List.getElem_cons_zero, List.getElem_cons_succ, Option.isNone_some, Option.isNone_none, List.getD_cons_zero, List.getD_cons_succ, I.at, atL, atO, atP, evp, evs, retV, ↓reduceIte, Nat.reduceEqDiff, reduceCtorEq, AS, t1, t3, t4, t6, t7, t10, t11, row6e_1 r1, p1.Eix li, p1.Eld li, gQ i li, cell_e16]
    refine E_call0 ((culletlaw04_horner_w_spec w15.drew sp m (Q.getD i 0) (op.up C).drew (by omega)).mono ?_)
    rintro _ w16 ⟨rfl, hB⟩
    rw [ev]
    have see := v1.sees lr Try.prog
    rw [gR i lr, cell_e16] at see
    have see1 := row6s_1 (r1.up hB) Try.prog
    have hB := (bel_drew w15).trans hB
    have ob := ob.up hB
    have C := C.trans (hB.mono C.size)
    simp (maxSteps := 1000000) (disch := omega) only [ES, List.mem_cons, List.not_mem_nil, implies_true, forall_const, WS, List.getElem_cons_zero, List.getElem_cons_succ, Option.isNone_some, Option.isNone_none, List.getD_cons_zero, List.getD_cons_succ, I.at, atL, atO, atP, evp, evs, retV, ↓reduceIte, Nat.reduceEqDiff, reduceCtorEq, AS, t1, t3, t4, t6, t7, t10, t11, (hV.up C).Eix lr, (hV.up C).Eld lr, gR i lr, cell_e16, see, see1, dt]
    refine WP_dops ?_
    have p2 := (hP.up C).drew
    have r2 := (hro.up C).drew
    have ib : i < bl.length := by omega
    simp (maxSteps := 1000000) (disch := omega) only [ES, List.mem_cons, List.not_mem_nil, implies_true, forall_const, WS, List.getElem_cons_zero, List.getElem_cons_succ, Option.isNone_some, Option.isNone_none, List.getD_cons_zero, List.getD_cons_succ, I.at, atL, atO, atP, evp, evs, retV, ↓reduceIte, Nat.reduceEqDiff, reduceCtorEq, AS, t1, t3, t4, t6, t7, t10, t11, row6e_1 r2, p2.Eix li, p2.Eld li, gQ i li, cell_e16]
    refine E_call0 ((culletlaw04_horner_w_spec w16.drew V R (Q.getD i 0) (hV.up C).drew (by omega)).mono ?_)
    rintro _ w17 ⟨rfl, hB⟩
    have hB := (bel_drew w16).trans hB
    have ob := ob.up hB
    have C := C.trans (hB.mono C.size)
    simp (maxSteps := 1000000) (disch := omega) only [ES, List.mem_cons, List.not_mem_nil, implies_true, forall_const, WS, List.getElem_cons_zero, List.getElem_cons_succ, Option.isNone_some, Option.isNone_none, List.getD_cons_zero, List.getD_cons_succ, I.at, atL, atO, atP, evp, evs, retV, ↓reduceIte, Nat.reduceEqDiff, reduceCtorEq, AS, t1, t3, t4, t6, t7, t10, t11, ob.sl.Eix ib]
    refine Ow.Est ob ib (em16 (evl R (Q.getD i 0))) fun w18 ob8 hg => ?_
    simp (maxSteps := 1000000) (disch := omega) only [ES, List.mem_cons, List.not_mem_nil, implies_true, forall_const, WS, List.getElem_cons_zero, List.getElem_cons_succ, Option.isNone_some, Option.isNone_none, List.getD_cons_zero, List.getD_cons_succ, I.at, atL, atO, atP, evp, evs, retV, ↓reduceIte, Nat.reduceEqDiff, reduceCtorEq, AS, t1, t3, t4, t6, t7, t10, t11]
    refine ⟨⟨C.grown hg C.size fun b hb => (ob.blk b hb).1, i + 1, _, rfl, by omega, ob8, by rw [List.length_set]; exact lbl, fun j hj => ?_⟩, by omega⟩
    by_cases hji : j = i
    · rw [hji, List.getD_eq_getElem?_getD, List.getElem?_set_self ib]; rfl
    · rw [List.getD_eq_getElem?_getD, List.getElem?_set_ne (by omega), ← List.getD_eq_getElem?_getD]; exact hbl j (by omega)
  obtain rfl : i = Q.length := by omega
  have B := B.trans (C.mono B.size)
  have hP := hP.up C
  have hV := hV.up C
  have hro := hro.up C
  have hb := hb.up C
  have hw := hw.up C
  have hr := hr.up C
  have ob := ob.sl
  obtain ⟨BK, hBK⟩ : ∃ BK : List (El 16), BK = (List.range Q.length).map fun j => evl R (Q.getD j 0) := ⟨_, rfl⟩
  have lBK : BK.length = Q.length := by rw [hBK, List.length_map, List.length_range]
  have gBK : ∀ j, j < Q.length → BK.getD j 0 = evl R (Q.getD j 0) := fun j hj => by
    rw [hBK, List.getD_eq_getElem?_getD, List.getElem?_map, List.getElem?_range hj]; rfl
  have ebl : bl = BK.map em16 := by
    refine List.ext_getElem (by rw [List.length_map, lbl, lBK]) fun j h1 h2 => ?_
    have h3 := hbl j (by omega)
    rw [List.getD_eq_getElem?_getD, List.getElem?_eq_getElem h1] at h3
    have h4 := gBK j (by omega)
    rw [List.getD_eq_getElem?_getD, List.getElem?_eq_getElem (by omega)] at h4
    rw [List.getElem_map]
    exact h3.trans (congrArg em16 h4.symm)
  rw [ebl] at ob
  have lbe : (BK.map em16).length = BK.length := List.length_map _
  simp (maxSteps := 1000000) (disch := omega) only [WS, List.getElem_cons_zero, List.getElem_cons_succ, Option.isNone_some, Option.isNone_none, List.getD_cons_zero, List.getD_cons_succ, I.at, atL, atO, atP, evp, evs, retV, ↓reduceIte, Nat.reduceEqDiff, reduceCtorEq, AS, t1, t3, t4, t6, t7, t10, t11, hP.Xlen, lP, hro.Xld (show 1 < _ by simp), hr.Xldn (n := 2) rfl]
  refine X_call0 ((culletlaw04_Rings_interpolate_w_spec w15 rb rw P bk (Q.map em16) (BK.map em16) hb hw hP ob (by omega) (by omega)).mono ?_)
  rw [lo16_map_em16, lo16_map_em16, lP, lbe]
  rintro _ w16 ⟨hB, ⟨-, -, -, -, sq, mq, rfl, oq, tq, cq, lq⟩ | ⟨_, e9, rfl, -, ⟨-, -, h9, -⟩ | ⟨-, -, -, h9, -⟩ | ⟨h9, -⟩⟩⟩
  rotate_left
  · exact absurd lBK h9
  · exact absurd hnn h9
  · exact absurd ⟨by omega, by omega⟩ h9
  have oq := oq.sl
  have hV := hV.up hB
  have hro := hro.up hB
  have hb := hb.up hB
  have hw := hw.up hB
  have hr := hr.up hB
  have B := B.trans (hB.mono B.size)
  clear hB
  have hcq : co mq = co R := nw_back hnn hlen cq gBK
  simp (maxSteps := 1000000) (disch := omega) only [WS, List.getElem_cons_zero, List.getElem_cons_succ, Option.isNone_some, Option.isNone_none, List.getD_cons_zero, List.getD_cons_succ, I.at, atL, atO, atP, evp, evs, retV, ↓reduceIte, Nat.reduceEqDiff, reduceCtorEq, AS, t1, t3, t4, t6, t7, t10, t11, dt, hro.Xld (show 1 < _ by simp), hr.Xldn (n := 2) rfl]
  refine X_call0 ((culletlaw04_Rings_trim_w_spec w16 rb rw V (R.map em16) hb hw hV (by omega)).mono ?_)
  rw [lo16_map_em16]
  rintro v w17 ⟨hB, mt, ot, tt, ct, lt⟩
  have ot := ot.sl
  have oq := oq.up hB
  have B := B.trans (hB.mono B.size)
  clear hB
  have he : mq = mt := tr_inj tq tt (hcq.trans ct.symm)
  subst he
  have lme2 : (mq.map em16).length = mq.length := List.length_map _
  simp (maxSteps := 1000000) (disch := omega) only [WS, List.getElem_cons_zero, List.getElem_cons_succ, Option.isNone_some, Option.isNone_none, List.getD_cons_zero, List.getD_cons_succ, I.at, atL, atO, atP, evp, evs, retV, ↓reduceIte, Nat.reduceEqDiff, reduceCtorEq, AS]
  refine X_call0 ((culletlaw04_same_spec w17 sq v _ _ oq ot (by omega) (by omega)).mono ?_)
  rintro _ w18 ⟨rfl, hk⟩
  have hB := hk.1
  have B := B.trans (hB.mono B.size)
  clear hB
  rw [decide_eq_true rfl]
  simp (maxSteps := 1000000) (disch := omega) only [WS, List.getElem_cons_zero, List.getElem_cons_succ, Option.isNone_some, Option.isNone_none, List.getD_cons_zero, List.getD_cons_succ, I.at, atL, atO, atP, evp, evs, retV, ↓reduceIte, Nat.reduceEqDiff, reduceCtorEq, AS]
  exact B
end Go.Proofs.Ytcdagkcchfibjaa.Fw

namespace Go.Proofs.Ytcdagkcchfibjaa.Fw
open Go Go.Fw
theorem culletlaw04_PolysThrough_b_spec (w : World) (k n : Int) (F G : Value) (LF LG : List (El 16)) (X : El 16) (hF : Sl w F LF) (hG : Sl w G LG) (hlF : LF.length ≤ 70368744175616) (hlG : LG.length ≤ 70368744175616) :
    CallV Try.prog 5 [.agg #[.int .i64 k, .bool false, F, G, .int .u16 (X.v.toNat : Int), .int .i64 n]] w fun v w' => v = .bool true ∧ RowKit.Below w.heap.size w w' := by
  have dt : ∀ e : Int, decide (e = e) = true := fun e => decide_eq_true rfl
  refine run_culletlaw04_PolysThrough (by simp) ?_
  simp only [c_culletlaw04_PolysThrough, WS, List.getElem_cons_zero, List.getElem_cons_succ, Option.isNone_some, Option.isNone_none, List.getD_cons_zero, List.getD_cons_succ, I.at, atL, atO, atP, evp, evs, retV, ↓reduceIte, Nat.reduceEqDiff, reduceCtorEq]
  refine X_box fun bo w1 hro hbo hB => ?_
  have hro : Row w1 bo [.int .i64 k, .bool false, F, G, .int .u16 (X.v.toNat : Int), .int .i64 n] := hro
  have B := hB
  have hF := hF.up hB
  have hG := hG.up hB
  clear hB hbo
  simp (maxSteps := 1000000) (disch := omega) only [WS, List.getElem_cons_zero, List.getElem_cons_succ, Option.isNone_some, Option.isNone_none, List.getD_cons_zero, List.getD_cons_succ, I.at, atL, atO, atP, evp, evs, retV, ↓reduceIte, Nat.reduceEqDiff, reduceCtorEq, AS]
  refine X_call0 ((culletlaw04_both_spec w1).mono ?_)
  rintro _ w2 ⟨rb, rw, rfl, hb, hw, hB⟩
  have hF := hF.up hB
  have hG := hG.up hB
  have hro := hro.up hB
  have B := B.trans (hB.mono B.size)
  clear hB
  simp (maxSteps := 1000000) (disch := omega) only [WS, List.getElem_cons_zero, List.getElem_cons_succ, Option.isNone_some, Option.isNone_none, List.getD_cons_zero, List.getD_cons_succ, I.at, atL, atO, atP, evp, evs, retV, ↓reduceIte, Nat.reduceEqDiff, reduceCtorEq, AS]
  refine X_alloc fun b3 w0 hr3 hb3 hB => ?_
  have s8 : scal rb = true := by obtain ⟨_, _, _, rfl, _⟩ := hb; rfl
  have s16 : scal rw = true := by obtain ⟨_, _, _, rfl, _⟩ := hw; rfl
  simp (maxSteps := 1000000) (disch := omega) only [WS, List.getElem_cons_zero, List.getElem_cons_succ, Option.isNone_some, Option.isNone_none, List.getD_cons_zero, List.getD_cons_succ, I.at, atL, atO, atP, evp, evs, retV, ↓reduceIte, Nat.reduceEqDiff, reduceCtorEq, AS]
  refine Row.Xstn (vs := [rb, rw]) hr3 rfl (by simp [s8, s16]) (by simp) fun w3 hr hg => ?_
  have hB := Below.row hB hb3 hg
  clear hg hr3 hb3 s8 s16
  have hF := hF.up hB
  have hG := hG.up hB
  have hro := hro.up hB
  have hb := hb.up hB
  have hw := hw.up hB
  have B := B.trans (hB.mono B.size)
  clear hB
  simp (maxSteps := 1000000) (disch := omega) only [WS, List.getElem_cons_zero, List.getElem_cons_succ, Option.isNone_some, Option.isNone_none, List.getD_cons_zero, List.getD_cons_succ, I.at, atL, atO, atP, evp, evs, retV, ↓reduceIte, Nat.reduceEqDiff, reduceCtorEq, AS, hr.Xldn (n := 2) rfl]
  refine X_bsl (zs := [(⟨0⟩ : El 16), ⟨1⟩]) (by rfl) (by rfl) fun c1 w4 hc1 hB => ?_
  have hc1 := hc1.sl
  have hF := hF.up hB
  have hG := hG.up hB
  have hro := hro.up hB
  have hb := hb.up hB
  have hw := hw.up hB
  have hr := hr.up hB
  have B := B.trans (hB.mono B.size)
  clear hB
  simp (maxSteps := 1000000) (disch := omega) only [WS, List.getElem_cons_zero, List.getElem_cons_succ, Option.isNone_some, Option.isNone_none, List.getD_cons_zero, List.getD_cons_succ, I.at, atL, atO, atP, evp, evs, retV, ↓reduceIte, Nat.reduceEqDiff, reduceCtorEq, AS]
  refine X_bsl (zs := [(⟨5⟩ : El 16), ⟨7⟩]) (by rfl) (by rfl) fun c2 w5 hc2 hB => ?_
  have hc2 := hc2.sl
  have hF := hF.up hB
  have hG := hG.up hB
  have hro := hro.up hB
  have hb := hb.up hB
  have hw := hw.up hB
  have hr := hr.up hB
  have hc1 := hc1.up hB
  have B := B.trans (hB.mono B.size)
  clear hB
  simp (maxSteps := 1000000) (disch := omega) only [WS, List.getElem_cons_zero, List.getElem_cons_succ, Option.isNone_some, Option.isNone_none, List.getD_cons_zero, List.getD_cons_succ, I.at, atL, atO, atP, evp, evs, retV, ↓reduceIte, Nat.reduceEqDiff, reduceCtorEq, AS, hr.Xldn (n := 2) rfl]
  refine X_call0 ((culletlaw04_Rings_interpolate_b_spec w5 rb rw c1 c2 _ _ hb hw hc1 hc2 (by simp) (by simp)).mono ?_)
  rintro _ w6 ⟨hB, ⟨-, -, -, -, s0, m0, rfl, o0, t0, q0, -⟩ | ⟨_, e0, rfl, -, ⟨-, -, h9, -⟩ | ⟨-, -, -, h9, -⟩ | ⟨h9, -⟩⟩⟩
  rotate_left
  · exact absurd rfl h9
  · exact absurd th_nd h9
  · exact absurd ⟨by simp, by simp⟩ h9
  have o0 := o0.sl
  have e0 := th_b m0 t0 q0
  have hF := hF.up hB
  have hG := hG.up hB
  have hro := hro.up hB
  have hb := hb.up hB
  have hw := hw.up hB
  have hr := hr.up hB
  have B := B.trans (hB.mono B.size)
  clear hB
  simp (maxSteps := 1000000) (disch := omega) only [WS, List.getElem_cons_zero, List.getElem_cons_succ, Option.isNone_some, Option.isNone_none, List.getD_cons_zero, List.getD_cons_succ, I.at, atL, atO, atP, evp, evs, retV, ↓reduceIte, Nat.reduceEqDiff, reduceCtorEq, AS, dt]
  refine X_bsl (zs := [(⟨5⟩ : El 16), ⟨2⟩]) (by rfl) (by rfl) fun c3 w7 hc3 hB => ?_
  have hc3 := hc3.sl
  have hF := hF.up hB
  have hG := hG.up hB
  have hro := hro.up hB
  have hb := hb.up hB
  have hw := hw.up hB
  have hr := hr.up hB
  have o0 := o0.up hB
  have B := B.trans (hB.mono B.size)
  clear hB
  simp (maxSteps := 1000000) (disch := omega) only [WS, List.getElem_cons_zero, List.getElem_cons_succ, Option.isNone_some, Option.isNone_none, List.getD_cons_zero, List.getD_cons_succ, I.at, atL, atO, atP, evp, evs, retV, ↓reduceIte, Nat.reduceEqDiff, reduceCtorEq, AS]
  refine X_call0 ((culletlaw04_same_spec w7 s0 c3 _ _ o0 hc3 (by rw [e0]; simp) (by simp)).mono ?_)
  rintro _ w8 ⟨rfl, hk⟩
  have hB := hk.1
  have hF := hF.up hB
  have hG := hG.up hB
  have hro := hro.up hB
  have hb := hb.up hB
  have hw := hw.up hB
  have hr := hr.up hB
  have B := B.trans (hB.mono B.size)
  clear hB
  rw [decide_eq_true e0]
  clear hk hc3 o0 hc1 hc2
  simp (maxSteps := 1000000) (disch := omega) only [WS, List.getElem_cons_zero, List.getElem_cons_succ, Option.isNone_some, Option.isNone_none, List.getD_cons_zero, List.getD_cons_succ, I.at, atL, atO, atP, evp, evs, retV, ↓reduceIte, Nat.reduceEqDiff, reduceCtorEq, AS, hro.Xld (show 1 < _ by simp), hro.Xld (show 2 < _ by simp)]
  refine X_call0 ((culletlaw04_cut_b_spec w8 F LF hF hlF).mono ?_)
  rintro P w9 ⟨hP, hB⟩
  have hP := hP.sl
  have hG := hG.up hB
  have hro := hro.up hB
  have hb := hb.up hB
  have hw := hw.up hB
  have hr := hr.up hB
  have B := B.trans (hB.mono B.size)
  clear hB
  clear hF
  generalize hqQ : LF.map lo8 = Q at hP
  have lP : (Q.map em8).length = Q.length := List.length_map _
  have bQ : Q.length ≤ 70368744175616 := by rw [← hqQ, List.length_map]; exact hlF
  clear hqQ
  simp (maxSteps := 1000000) (disch := omega) only [WS, List.getElem_cons_zero, List.getElem_cons_succ, Option.isNone_some, Option.isNone_none, List.getD_cons_zero, List.getD_cons_succ, I.at, atL, atO, atP, evp, evs, retV, ↓reduceIte, Nat.reduceEqDiff, reduceCtorEq, AS, hro.Xld (show 1 < _ by simp), hro.Xld (show 3 < _ by simp)]
  refine X_call0 ((culletlaw04_cut_b_spec w9 G LG hG hlG).mono ?_)
  rintro V w10 ⟨hV, hB⟩
  have hV := hV.sl
  have hro := hro.up hB
  have hb := hb.up hB
  have hw := hw.up hB
  have hr := hr.up hB
  have hP := hP.up hB
  have B := B.trans (hB.mono B.size)
  clear hB
  clear hG
  generalize hqR : LG.map lo8 = R at hV
  have lV : (R.map em8).length = R.length := List.length_map _
  have bR : R.length ≤ 70368744175616 := by rw [← hqR, List.length_map]; exact hlG
  clear hqR
  by_cases hbig : 64 < Q.length
  · simp (maxSteps := 1000000) (disch := omega) only [WS, List.getElem_cons_zero, List.getElem_cons_succ, Option.isNone_some, Option.isNone_none, List.getD_cons_zero, List.getD_cons_succ, I.at, atL, atO, atP, evp, evs, retV, ↓reduceIte, Nat.reduceEqDiff, reduceCtorEq, AS, hP.Xlen, lP]
    exact B
  by_cases hbig2 : 1024 < R.length
  · simp (maxSteps := 1000000) (disch := omega) only [WS, List.getElem_cons_zero, List.getElem_cons_succ, Option.isNone_some, Option.isNone_none, List.getD_cons_zero, List.getD_cons_succ, I.at, atL, atO, atP, evp, evs, retV, ↓reduceIte, Nat.reduceEqDiff, reduceCtorEq, AS, hP.Xlen, lP, hV.Xlen, lV]
    exact B
  simp (maxSteps := 1000000) (disch := omega) only [WS, List.getElem_cons_zero, List.getElem_cons_succ, Option.isNone_some, Option.isNone_none, List.getD_cons_zero, List.getD_cons_succ, I.at, atL, atO, atP, evp, evs, retV, ↓reduceIte, Nat.reduceEqDiff, reduceCtorEq, AS, hP.Xlen, lP, hV.Xlen, lV, hr.Xldn (n := 2) rfl, hro.Xld (show 1 < _ by simp)]
  refine X_call0 ((culletlaw04_Rings_interpolate_b_spec w10 rb rw P V (Q.map em8) (R.map em8) hb hw hP hV (by omega) (by omega)).mono ?_)
  rw [lo8_map_em8, lo8_map_em8, lP, lV]
  rintro vv w11 ⟨hB, hres⟩
  have hro := hro.up hB
  have hb := hb.up hB
  have hw := hw.up hB
  have hr := hr.up hB
  have hP := hP.up hB
  have hV := hV.up hB
  have B := B.trans (hB.mono B.size)
  clear hB
  by_cases hlen : R.length = Q.length
  rotate_left
  · rcases hres with ⟨-, -, h9, -⟩ | ⟨sp, e, rfl, op, ⟨-, -, -, rfl⟩ | ⟨-, -, h9, -⟩ | ⟨h9, -⟩⟩
    · exact absurd h9 hlen
    · have hne : (Q.length : Int) ≠ (R.length : Int) := fun e => hlen (by omega)
      simp (maxSteps := 1000000) (disch := omega) only [WS, List.getElem_cons_zero, List.getElem_cons_succ, Option.isNone_some, Option.isNone_none, List.getD_cons_zero, List.getD_cons_succ, I.at, atL, atO, atP, evp, evs, retV, ↓reduceIte, Nat.reduceEqDiff, reduceCtorEq, AS, hP.Xlen, lP, hV.Xlen, lV, op.sl.Xlen, List.length_nil, show decide (((0 : Nat) : Int) = 0) = true from rfl, show decide ((6 : Int) = 6) = true from rfl]
      exact B
    · exact absurd h9 hlen
    · exact absurd ⟨by omega, by omega⟩ h9
  have gQ : ∀ j (h : j < (Q.map em8).length), (Q.map em8)[j] = em8 (Q.getD j 0) := fun j h => by
    rw [List.getElem_map, List.getD_eq_getElem?_getD, List.getElem?_eq_getElem (by omega)]; rfl
  have gR : ∀ j (h : j < (R.map em8).length), (R.map em8)[j] = em8 (R.getD j 0) := fun j h => by
    rw [List.getElem_map, List.getD_eq_getElem?_getD, List.getElem?_eq_getElem (by omega)]; rfl
  obtain ⟨sp, e, pl, rfl, op, hcase⟩ : ∃ (sp : Value) (e : Int) (pl : List (El 16)), vv = .tuple #[sp, .int .i64 e] ∧ Sl w11 sp pl ∧ ((e = 0 ∧ (∀ a b, a < Q.length → b < Q.length → Q.getD a 0 = Q.getD b 0 → a = b) ∧ ∃ m, pl = m.map em8 ∧ tr m = m ∧ co m = nw (fun j => Q.getD j 0) (fun j => R.getD j 0) 0 Q.length ∧ m.length ≤ Q.length) ∨ (e = 41 ∧ pl = [] ∧ ¬ ∀ a b, a < Q.length → b < Q.length → Q.getD a 0 = Q.getD b 0 → a = b)) := by
    rcases hres with ⟨-, -, -, g3, s, m, rfl, om, q0, q1, q2⟩ | ⟨sp, e, rfl, op, ⟨-, -, h9, -⟩ | ⟨-, -, -, h9, rfl⟩ | ⟨h9, -⟩⟩
    · exact ⟨s, 0, _, rfl, om.sl, Or.inl ⟨rfl, g3, m, rfl, q0, q1, q2⟩⟩
    · exact absurd hlen h9
    · exact ⟨sp, 41, [], rfl, op.sl, Or.inr ⟨rfl, rfl, h9⟩⟩
    · exact absurd ⟨by omega, by omega⟩ h9
  clear hres
  simp (maxSteps := 1000000) (disch := omega) only [WS, List.getElem_cons_zero, List.getElem_cons_succ, Option.isNone_some, Option.isNone_none, List.getD_cons_zero, List.getD_cons_succ, I.at, atL, atO, atP, evp, evs, retV, ↓reduceIte, Nat.reduceEqDiff, reduceCtorEq, AS, hP.Xlen, lP, hV.Xlen, lV, hlen, dt]
  refine loop_of (fun t w' => RowKit.Below w11.heap.size w11 w' ∧ t 1 = .pointer (some ⟨bo, 0, none⟩) ∧ t 3 = .pointer (some ⟨b3, 0, none⟩) ∧ t 4 = sp ∧ t 5 = .int .i64 e ∧ t 6 = P ∧ t 7 = V ∧ ∃ i : Nat, t 8 = .int .i64 (i : Int) ∧ i ≤ Q.length ∧ ∀ a b, a < i → b < i → Q.getD a 0 = Q.getD b 0 → a = b)
    (fun t _ => Q.length - (toI (t 8)).toNat) ⟨RowKit.Below.refl _ _, by simp only [WS, List.getElem_cons_zero, List.getElem_cons_succ, Option.isNone_some, Option.isNone_none, List.getD_cons_zero, List.getD_cons_succ, I.at, atL, atO, atP, evp, evs, retV, ↓reduceIte, Nat.reduceEqDiff, reduceCtorEq], by simp only [WS, List.getElem_cons_zero, List.getElem_cons_succ, Option.isNone_some, Option.isNone_none, List.getD_cons_zero, List.getD_cons_succ, I.at, atL, atO, atP, evp, evs, retV, ↓reduceIte, Nat.reduceEqDiff, reduceCtorEq], by simp only [WS, List.getElem_cons_zero, List.getElem_cons_succ, Option.isNone_some, Option.isNone_none, List.getD_cons_zero, List.getD_cons_succ, I.at, atL, atO, atP, evp, evs, retV, ↓reduceIte, Nat.reduceEqDiff, reduceCtorEq], by simp only [WS, List.getElem_cons_zero, List.getElem_cons_succ, Option.isNone_some, Option.isNone_none, List.getD_cons_zero, List.getD_cons_succ, I.at, atL, atO, atP, evp, evs, retV, ↓reduceIte, Nat.reduceEqDiff, reduceCtorEq], by simp only [WS, List.getElem_cons_zero, List.getElem_cons_succ, Option.isNone_some, Option.isNone_none, List.getD_cons_zero, List.getD_cons_succ, I.at, atL, atO, atP, evp, evs, retV, ↓reduceIte, Nat.reduceEqDiff, reduceCtorEq], by simp only [WS, List.getElem_cons_zero, List.getElem_cons_succ, Option.isNone_some, Option.isNone_none, List.getD_cons_zero, List.getD_cons_succ, I.at, atL, atO, atP, evp, evs, retV, ↓reduceIte, Nat.reduceEqDiff, reduceCtorEq], 0, rfl, by omega, fun a b ha => by omega⟩ ?_
  rintro t w12 ⟨C, t1, t3, t4, t5, t6, t7, i, t8, hi, hnd⟩
  by_cases hil : i < Q.length
  · simp (maxSteps := 1000000) (disch := omega) only [WS, List.getElem_cons_zero, List.getElem_cons_succ, Option.isNone_some, Option.isNone_none, List.getD_cons_zero, List.getD_cons_succ, I.at, atL, atO, atP, evp, evs, retV, ↓reduceIte, Nat.reduceEqDiff, reduceCtorEq, AS, t1, t3, t4, t5, t6, t7, t8, (hP.up C).Xlen, lP]
    refine loop_of (fun t w' => RowKit.Below w11.heap.size w11 w' ∧ t 1 = .pointer (some ⟨bo, 0, none⟩) ∧ t 3 = .pointer (some ⟨b3, 0, none⟩) ∧ t 4 = sp ∧ t 5 = .int .i64 e ∧ t 6 = P ∧ t 7 = V ∧ t 8 = .int .i64 (i : Int) ∧ ∃ j : Nat, t 9 = .int .i64 (j : Int) ∧ j ≤ i ∧ ∀ a, a < j → Q.getD i 0 ≠ Q.getD a 0)
      (fun t _ => i - (toI (t 9)).toNat) ⟨C, by simp only [WS, List.getElem_cons_zero, List.getElem_cons_succ, Option.isNone_some, Option.isNone_none, List.getD_cons_zero, List.getD_cons_succ, I.at, atL, atO, atP, evp, evs, retV, ↓reduceIte, Nat.reduceEqDiff, reduceCtorEq]; exact t1, by simp only [WS, List.getElem_cons_zero, List.getElem_cons_succ, Option.isNone_some, Option.isNone_none, List.getD_cons_zero, List.getD_cons_succ, I.at, atL, atO, atP, evp, evs, retV, ↓reduceIte, Nat.reduceEqDiff, reduceCtorEq]; exact t3, by simp only [WS, List.getElem_cons_zero, List.getElem_cons_succ, Option.isNone_some, Option.isNone_none, List.getD_cons_zero, List.getD_cons_succ, I.at, atL, atO, atP, evp, evs, retV, ↓reduceIte, Nat.reduceEqDiff, reduceCtorEq]; exact t4, by simp only [WS, List.getElem_cons_zero, List.getElem_cons_succ, Option.isNone_some, Option.isNone_none, List.getD_cons_zero, List.getD_cons_succ, I.at, atL, atO, atP, evp, evs, retV, ↓reduceIte, Nat.reduceEqDiff, reduceCtorEq]; exact t5, by simp only [WS, List.getElem_cons_zero, List.getElem_cons_succ, Option.isNone_some, Option.isNone_none, List.getD_cons_zero, List.getD_cons_succ, I.at, atL, atO, atP, evp, evs, retV, ↓reduceIte, Nat.reduceEqDiff, reduceCtorEq]; exact t6, by simp only [WS, List.getElem_cons_zero, List.getElem_cons_succ, Option.isNone_some, Option.isNone_none, List.getD_cons_zero, List.getD_cons_succ, I.at, atL, atO, atP, evp, evs, retV, ↓reduceIte, Nat.reduceEqDiff, reduceCtorEq]; exact t7, by simp only [WS, List.getElem_cons_zero, List.getElem_cons_succ, Option.isNone_some, Option.isNone_none, List.getD_cons_zero, List.getD_cons_succ, I.at, atL, atO, atP, evp, evs, retV, ↓reduceIte, Nat.reduceEqDiff, reduceCtorEq]; exact t8, 0, rfl, by omega, fun a ha => by omega⟩ ?_
    clear t1 t3 t4 t5 t6 t7 t8 C
    rintro t w13 ⟨C, t1, t3, t4, t5, t6, t7, t8, j, t9, hj, hne⟩
    by_cases hji : j < i
    · have p1 := (hP.up C).drew
      have op := op.up C
      have li : i < (Q.map em8).length := by omega
      have lj : j < (Q.map em8).length := by omega
      simp (maxSteps := 1000000) (disch := omega) only [WS, List.getElem_cons_zero, List.getElem_cons_succ, Option.isNone_some, Option.isNone_none, List.getD_cons_zero, List.getD_cons_succ, I.at, atL, atO, atP, evp, evs, retV, ↓reduceIte, Nat.reduceEqDiff, reduceCtorEq, AS, t1, t3, t4, t5, t6, t7, t8, t9]
      refine WP_dops ?_
      by_cases heq : Q.getD i 0 = Q.getD j 0
      · have hnn : ¬ ∀ a b, a < Q.length → b < Q.length → Q.getD a 0 = Q.getD b 0 → a = b := fun h => by have := h i j hil (by omega) heq; omega
        rcases hcase with ⟨-, h9, -⟩ | ⟨rfl, rfl, -⟩
        · exact absurd h9 hnn
        simp (maxSteps := 1000000) (disch := omega) only [ES, List.mem_cons, List.not_mem_nil, implies_true, forall_const, WS, List.getElem_cons_zero, List.getElem_cons_succ, Option.isNone_some, Option.isNone_none, List.getD_cons_zero, List.getD_cons_succ, I.at, atL, atO, atP, evp, evs, retV, ↓reduceIte, Nat.reduceEqDiff, reduceCtorEq, AS, t1, t3, t4, t5, t6, t7, t8, t9, p1.Eix li, p1.Eld li, p1.Eix lj, p1.Eld lj, gQ i li, gQ j lj, cell_e16, heq, dt]
        simp (maxSteps := 1000000) (disch := omega) only [WS, List.getElem_cons_zero, List.getElem_cons_succ, Option.isNone_some, Option.isNone_none, List.getD_cons_zero, List.getD_cons_succ, I.at, atL, atO, atP, evp, evs, retV, ↓reduceIte, Nat.reduceEqDiff, reduceCtorEq, AS, t1, t3, t4, t5, t6, t7, t8, t9, op.Xlen, op.drew.Xlen, List.length_nil, dt, show decide (((0 : Nat) : Int) = 0) = true from rfl]
        exact B.trans ((C.trans ((bel_drew w13).mono C.size)).mono B.size)
      · have hev : ((em8 (Q.getD i 0)).v.toNat : Int) ≠ ((em8 (Q.getD j 0)).v.toNat : Int) := fun e => heq (em8_inj (El.ext (BitVec.eq_of_toNat_eq (by omega))))
        simp (maxSteps := 1000000) (disch := omega) only [ES, List.mem_cons, List.not_mem_nil, implies_true, forall_const, WS, List.getElem_cons_zero, List.getElem_cons_succ, Option.isNone_some, Option.isNone_none, List.getD_cons_zero, List.getD_cons_succ, I.at, atL, atO, atP, evp, evs, retV, ↓reduceIte, Nat.reduceEqDiff, reduceCtorEq, AS, t1, t3, t4, t5, t6, t7, t8, t9, p1.Eix li, p1.Eld li, p1.Eix lj, p1.Eld lj, gQ i li, gQ j lj, cell_e16]
        refine ⟨⟨C.trans ((bel_drew w13).mono C.size), j + 1, rfl, by omega, fun a ha => ?_⟩, by omega⟩
        by_cases h1 : a = j
        · rw [h1]; exact heq
        · exact hne a (by omega)
    · obtain rfl : j = i := by omega
      simp (maxSteps := 1000000) (disch := omega) only [WS, List.getElem_cons_zero, List.getElem_cons_succ, Option.isNone_some, Option.isNone_none, List.getD_cons_zero, List.getD_cons_succ, I.at, atL, atO, atP, evp, evs, retV, ↓reduceIte, Nat.reduceEqDiff, reduceCtorEq, AS, t1, t3, t4, t5, t6, t7, t8, t9]
      refine ⟨⟨C, j + 1, rfl, by omega, fun a b ha hb e => ?_⟩, by omega⟩
      by_cases h1 : a = j
      · by_cases h2 : b = j
        · rw [h1, h2]
        · exact absurd (by rw [← h1]; exact e) (hne b (by omega))
      · by_cases h2 : b = j
        · exact absurd (by rw [← h2]; exact e.symm) (hne a (by omega))
        · exact hnd a b (by omega) (by omega) e
  obtain rfl : i = Q.length := by omega
  rcases hcase with ⟨rfl, hnn, m, rfl, tm, cm, lm⟩ | ⟨-, -, h9⟩
  rotate_left
  · exact absurd hnd h9
  have B := B.trans (C.mono B.size)
  have hP := hP.up C
  have hV := hV.up C
  have op := op.up C
  have hro := hro.up C
  have hb := hb.up C
  have hw := hw.up C
  have hr := hr.up C
  have lme : (m.map em8).length = m.length := List.length_map _
  have hnt : (m.map em8).length = tln (m.map em8) := by rw [tln_em8, lme]; exact len_tr tm
  simp (maxSteps := 1000000) (disch := omega) only [WS, List.getElem_cons_zero, List.getElem_cons_succ, Option.isNone_some, Option.isNone_none, List.getD_cons_zero, List.getD_cons_succ, I.at, atL, atO, atP, evp, evs, retV, ↓reduceIte, Nat.reduceEqDiff, reduceCtorEq, AS, t1, t3, t4, t5, t6, t7, t8, hP.Xlen, lP, dt]
  refine X_call0 ((culletlaw04_neat_spec w12 sp (m.map em8) op (by omega)).mono ?_)
  rintro _ w13 ⟨rfl, rfl⟩
  rw [decide_eq_true hnt]
  simp (maxSteps := 1000000) (disch := omega) only [WS, List.getElem_cons_zero, List.getElem_cons_succ, Option.isNone_some, Option.isNone_none, List.getD_cons_zero, List.getD_cons_succ, I.at, atL, atO, atP, evp, evs, retV, ↓reduceIte, Nat.reduceEqDiff, reduceCtorEq, AS, t1, t3, t4, t5, t6, t7, t8, hP.Xlen, lP, op.Xlen, lme]
  refine X_mks (x := (0 : El 16)) (by simp only [maxBytes]; omega) (by omega) fun bk w14 ob hC => ?_
  simp (maxSteps := 1000000) (disch := omega) only [WS, List.getElem_cons_zero, List.getElem_cons_succ, Option.isNone_some, Option.isNone_none, List.getD_cons_zero, List.getD_cons_succ, I.at, atL, atO, atP, evp, evs, retV, ↓reduceIte, Nat.reduceEqDiff, reduceCtorEq, AS, t1, t3, t4, t5, t6, t7, t8]
  refine loop_of (fun t w' => RowKit.Below w13.heap.size w13 w' ∧ t 1 = .pointer (some ⟨bo, 0, none⟩) ∧ t 3 = .pointer (some ⟨b3, 0, none⟩) ∧ t 4 = sp ∧ t 6 = P ∧ t 7 = V ∧ t 10 = bk ∧ ∃ (i : Nat) (bl : List (El 16)), t 11 = .int .i64 (i : Int) ∧ i ≤ Q.length ∧ Ow w13.heap.size w' bk bl ∧ bl.length = Q.length ∧ ∀ j, j < i → bl.getD j 0 = em8 (evl R (Q.getD j 0)))
    (fun t _ => Q.length - (toI (t 11)).toNat) ⟨hC, by simp only [WS, List.getElem_cons_zero, List.getElem_cons_succ, Option.isNone_some, Option.isNone_none, List.getD_cons_zero, List.getD_cons_succ, I.at, atL, atO, atP, evp, evs, retV, ↓reduceIte, Nat.reduceEqDiff, reduceCtorEq]; exact t1, by simp only [WS, List.getElem_cons_zero, List.getElem_cons_succ, Option.isNone_some, Option.isNone_none, List.getD_cons_zero, List.getD_cons_succ, I.at, atL, atO, atP, evp, evs, retV, ↓reduceIte, Nat.reduceEqDiff, reduceCtorEq]; exact t3, by simp only [WS, List.getElem_cons_zero, List.getElem_cons_succ, Option.isNone_some, Option.isNone_none, List.getD_cons_zero, List.getD_cons_succ, I.at, atL, atO, atP, evp, evs, retV, ↓reduceIte, Nat.reduceEqDiff, reduceCtorEq]; exact t4, by simp only [WS, List.getElem_cons_zero, List.getElem_cons_succ, Option.isNone_some, Option.isNone_none, List.getD_cons_zero, List.getD_cons_succ, I.at, atL, atO, atP, evp, evs, retV, ↓reduceIte, Nat.reduceEqDiff, reduceCtorEq]; exact t6, by simp only [WS, List.getElem_cons_zero, List.getElem_cons_succ, Option.isNone_some, Option.isNone_none, List.getD_cons_zero, List.getD_cons_succ, I.at, atL, atO, atP, evp, evs, retV, ↓reduceIte, Nat.reduceEqDiff, reduceCtorEq]; exact t7, by simp only [WS, List.getElem_cons_zero, List.getElem_cons_succ, Option.isNone_some, Option.isNone_none, List.getD_cons_zero, List.getD_cons_succ, I.at, atL, atO, atP, evp, evs, retV, ↓reduceIte, Nat.reduceEqDiff, reduceCtorEq], 0, _, rfl, by omega, ob, List.length_replicate .., fun j hj => by omega⟩ ?_
  clear t1 t3 t4 t5 t6 t7 t8 hC ob
  rintro t w15 ⟨C, t1, t3, t4, t6, t7, t10, i, bl, t11, hi, ob, lbl, hbl⟩
  by_cases hil : i < Q.length
  · have li : i < (Q.map em8).length := by omega
    have lr : i < (R.map em8).length := by omega
    have p1 := (hP.up C).drew
    have v1 := (hV.up C).drew
    have r1 := (hro.up C).drew
    have ev : evl m (Q.getD i 0) = R.getD i 0 := nw_interp hnn cm i hil
    simp (maxSteps := 1000000) (disch := omega) only [WS, List.getElem_cons_zero, List.getElem_cons_succ, Option.isNone_some, Option.isNone_none, List.getD_cons_zero, List.getD_cons_succ, I.at, atL, atO, atP, evp, evs, retV, ↓reduceIte, Nat.reduceEqDiff, reduceCtorEq, AS, t1, t3, t4, t6, t7, t10, t11, (hP.up C).Xlen, lP]
    refine WP_dops ?_
    simp (maxSteps := 1000000) (disch := omega) only [ES, List.mem_cons, List.not_mem_nil, implies_true, forall_const, WS, List.getElem_cons_zero, List.getElem_cons_succ, Option.isNone_some, Option.isNone_none, List.getD_cons_zero, List.getD_cons_succ, I.at, atL, atO, atP, evp, evs, retV, ↓reduceIte, Nat.reduceEqDiff, reduceCtorEq, AS, t1, t3, t4, t6, t7, t10, t11, row6e_1 r1, p1.Eix li, p1.Eld li, gQ i li, cell_e16]
    refine E_call0 ((culletlaw04_horner_b_spec w15.drew sp m (Q.getD i 0) (op.up C).drew (by omega)).mono ?_)
    rintro _ w16 ⟨rfl, hB⟩
    rw [ev]
    have see := v1.sees lr Try.prog
    rw [gR i lr, cell_e16] at see
    have see1 := row6s_1 (r1.up hB) Try.prog
    have hB := (bel_drew w15).trans hB
    have ob := ob.up hB
    have C := C.trans (hB.mono C.size)
    simp (maxSteps := 1000000) (disch := omega) only [ES, List.mem_cons, List.not_mem_nil, implies_true, forall_const, WS, List.getElem_cons_zero, List.getElem_cons_succ, Option.isNone_some, Option.isNone_none, List.getD_cons_zero, List.getD_cons_succ, I.at, atL, atO, atP, evp, evs, retV, ↓reduceIte, Nat.reduceEqDiff, reduceCtorEq, AS, t1, t3, t4, t6, t7, t10, t11, (hV.up C).Eix lr, (hV.up C).Eld lr, gR i lr, cell_e16, see, see1, dt]
    refine WP_dops ?_
    have p2 := (hP.up C).drew
    have r2 := (hro.up C).drew
    have ib : i < bl.length := by omega
    simp (maxSteps := 1000000) (disch := omega) only [ES, List.mem_cons, List.not_mem_nil, implies_true, forall_const, WS, List.getElem_cons_zero, List.getElem_cons_succ, Option.isNone_some, Option.isNone_none, List.getD_cons_zero, List.getD_cons_succ, I.at, atL, atO, atP, evp, evs, retV, ↓reduceIte, Nat.reduceEqDiff, reduceCtorEq, AS, t1, t3, t4, t6, t7, t10, t11, row6e_1 r2, p2.Eix li, p2.Eld li, gQ i li, cell_e16]
    refine E_call0 ((culletlaw04_horner_b_spec w16.drew V R (Q.getD i 0) (hV.up C).drew (by omega)).mono ?_)
    rintro _ w17 ⟨rfl, hB⟩
    have hB := (bel_drew w16).trans hB
    have ob := ob.up hB
    have C := C.trans (hB.mono C.size)
    simp (maxSteps := 1000000) (disch := omega) only [ES, List.mem_cons, List.not_mem_nil, implies_true, forall_const, WS, List.getElem_cons_zero, List.getElem_cons_succ, Option.isNone_some, Option.isNone_none, List.getD_cons_zero, List.getD_cons_succ, I.at, atL, atO, atP, evp, evs, retV, ↓reduceIte, Nat.reduceEqDiff, reduceCtorEq, AS, t1, t3, t4, t6, t7, t10, t11, ob.sl.Eix ib]
    refine Ow.Est ob ib (em8 (evl R (Q.getD i 0))) fun w18 ob8 hg => ?_
    simp (maxSteps := 1000000) (disch := omega) only [ES, List.mem_cons, List.not_mem_nil, implies_true, forall_const, WS, List.getElem_cons_zero, List.getElem_cons_succ, Option.isNone_some, Option.isNone_none, List.getD_cons_zero, List.getD_cons_succ, I.at, atL, atO, atP, evp, evs, retV, ↓reduceIte, Nat.reduceEqDiff, reduceCtorEq, AS, t1, t3, t4, t6, t7, t10, t11]
    refine ⟨⟨C.grown hg C.size fun b hb => (ob.blk b hb).1, i + 1, _, rfl, by omega, ob8, by rw [List.length_set]; exact lbl, fun j hj => ?_⟩, by omega⟩
    by_cases hji : j = i
    · rw [hji, List.getD_eq_getElem?_getD, List.getElem?_set_self ib]; rfl
    · rw [List.getD_eq_getElem?_getD, List.getElem?_set_ne (by omega), ← List.getD_eq_getElem?_getD]; exact hbl j (by omega)
  obtain rfl : i = Q.length := by omega
  have B := B.trans (C.mono B.size)
  have hP := hP.up C
  have hV := hV.up C
  have hro := hro.up C
  have hb := hb.up C
  have hw := hw.up C
  have hr := hr.up C
  have ob := ob.sl
  obtain ⟨BK, hBK⟩ : ∃ BK : List (El 8), BK = (List.range Q.length).map fun j => evl R (Q.getD j 0) := ⟨_, rfl⟩
  have lBK : BK.length = Q.length := by rw [hBK, List.length_map, List.length_range]
  have gBK : ∀ j, j < Q.length → BK.getD j 0 = evl R (Q.getD j 0) := fun j hj => by
    rw [hBK, List.getD_eq_getElem?_getD, List.getElem?_map, List.getElem?_range hj]; rfl
  have ebl : bl = BK.map em8 := by
    refine List.ext_getElem (by rw [List.length_map, lbl, lBK]) fun j h1 h2 => ?_
    have h3 := hbl j (by omega)
    rw [List.getD_eq_getElem?_getD, List.getElem?_eq_getElem h1] at h3
    have h4 := gBK j (by omega)
    rw [List.getD_eq_getElem?_getD, List.getElem?_eq_getElem (by omega)] at h4
    rw [List.getElem_map]
    exact h3.trans (congrArg em8 h4.symm)
  rw [ebl] at ob
  have lbe : (BK.map em8).length = BK.length := List.length_map _
  simp (maxSteps := 1000000) (disch := omega) only [WS, List.getElem_cons_zero, List.getElem_cons_succ, Option.isNone_some, Option.isNone_none, List.getD_cons_zero, List.getD_cons_succ, I.at, atL, atO, atP, evp, evs, retV, ↓reduceIte, Nat.reduceEqDiff, reduceCtorEq, AS, t1, t3, t4, t6, t7, t10, t11, hP.Xlen, lP, hro.Xld (show 1 < _ by simp), hr.Xldn (n := 2) rfl]
  refine X_call0 ((culletlaw04_Rings_interpolate_b_spec w15 rb rw P bk (Q.map em8) (BK.map em8) hb hw hP ob (by omega) (by omega)).mono ?_)
  rw [lo8_map_em8, lo8_map_em8, lP, lbe]
  rintro _ w16 ⟨hB, ⟨-, -, -, -, sq, mq, rfl, oq, tq, cq, lq⟩ | ⟨_, e9, rfl, -, ⟨-, -, h9, -⟩ | ⟨-, -, -, h9, -⟩ | ⟨h9, -⟩⟩⟩
  rotate_left
  · exact absurd lBK h9
  · exact absurd hnn h9
  · exact absurd ⟨by omega, by omega⟩ h9
  have oq := oq.sl
  have hV := hV.up hB
  have hro := hro.up hB
  have hb := hb.up hB
  have hw := hw.up hB
  have hr := hr.up hB
  have B := B.trans (hB.mono B.size)
  clear hB
  have hcq : co mq = co R := nw_back hnn hlen cq gBK
  simp (maxSteps := 1000000) (disch := omega) only [WS, List.getElem_cons_zero, List.getElem_cons_succ, Option.isNone_some, Option.isNone_none, List.getD_cons_zero, List.getD_cons_succ, I.at, atL, atO, atP, evp, evs, retV, ↓reduceIte, Nat.reduceEqDiff, reduceCtorEq, AS, t1, t3, t4, t6, t7, t10, t11, dt, hro.Xld (show 1 < _ by simp), hr.Xldn (n := 2) rfl]
  refine X_call0 ((culletlaw04_Rings_trim_b_spec w16 rb rw V (R.map em8) hb hw hV (by omega)).mono ?_)
  rw [lo8_map_em8]
  rintro v w17 ⟨hB, mt, ot, tt, ct, lt⟩
  have ot := ot.sl
  have oq := oq.up hB
  have B := B.trans (hB.mono B.size)
  clear hB
  have he : mq = mt := tr_inj tq tt (hcq.trans ct.symm)
  subst he
  have lme2 : (mq.map em8).length = mq.length := List.length_map _
  simp (maxSteps := 1000000) (disch := omega) only [WS, List.getElem_cons_zero, List.getElem_cons_succ, Option.isNone_some, Option.isNone_none, List.getD_cons_zero, List.getD_cons_succ, I.at, atL, atO, atP, evp, evs, retV, ↓reduceIte, Nat.reduceEqDiff, reduceCtorEq, AS]
  refine X_call0 ((culletlaw04_same_spec w17 sq v _ _ oq ot (by omega) (by omega)).mono ?_)
  rintro _ w18 ⟨rfl, hk⟩
  have hB := hk.1
  have B := B.trans (hB.mono B.size)
  clear hB
  rw [decide_eq_true rfl]
  simp (maxSteps := 1000000) (disch := omega) only [WS, List.getElem_cons_zero, List.getElem_cons_succ, Option.isNone_some, Option.isNone_none, List.getD_cons_zero, List.getD_cons_succ, I.at, atL, atO, atP, evp, evs, retV, ↓reduceIte, Nat.reduceEqDiff, reduceCtorEq, AS]
  exact B
end Go.Proofs.Ytcdagkcchfibjaa.Fw
