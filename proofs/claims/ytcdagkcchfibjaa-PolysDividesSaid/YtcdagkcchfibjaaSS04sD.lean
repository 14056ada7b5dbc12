import Derived.Test.YtcdagkcchfibjaaProg
import Derived.Test.YtcdagkcchfibjaaSS04vD
import Derived.Test.YtcdagkcchfibjaaSS04jD
set_option linter.all false
set_option linter.unusedVariables false
set_option linter.unusedSimpArgs false
set_option maxRecDepth 100000
namespace Go.Proofs.Ytcdagkcchfibjaa.Fw
open Go Go.Fw Go.Proofs
def c_culletlaw04_PolysDivides : C := .seq (.ops [⟨0, (some 1), none, .box 33 (.t 0), []⟩, ⟨1, (some 2), none, .mov (.c (.bool false)), []⟩]) (.seq (.ops [⟨0, (some 10), none, .call (.c (.func (.func 12) #[] #[])) [], []⟩, ⟨1, (some 3), none, .alloc 25 [.pointer none, .pointer none], []⟩, ⟨2, none, none, .stn 2 (.t 3) (.t 10), []⟩]) (.seq (.seq (.ops [⟨0, (some 11), none, .ldn 2 (.t 3), []⟩, ⟨1, (some 12), none, .call (.c (.func (.func 23) #[] #[])) [.t 11], []⟩, ⟨2, (some 13), none, .un .not (.t 12), []⟩]) (.ite (.t 13) (.seq (.ops [⟨0, (some 2), none, .mov (.c (.bool false)), []⟩]) .ret) .skip)) (.seq (.ops [⟨0, (some 14), none, .fad 1 (.t 1), []⟩, ⟨1, (some 15), none, .ld (.t 14), []⟩, ⟨2, (some 16), none, .fad 2 (.t 1), []⟩, ⟨3, (some 17), none, .ld (.t 16), []⟩, ⟨4, (some 18), none, .call (.c (.func (.func 16) #[] #[])) [.t 15, .t 17], []⟩, ⟨5, (some 4), none, .mov (.t 18), []⟩]) (.seq (.ops [⟨0, (some 19), none, .fad 1 (.t 1), []⟩, ⟨1, (some 20), none, .ld (.t 19), []⟩, ⟨2, (some 21), none, .fad 3 (.t 1), []⟩, ⟨3, (some 22), none, .ld (.t 21), []⟩, ⟨4, (some 23), none, .call (.c (.func (.func 16) #[] #[])) [.t 20, .t 22], []⟩, ⟨5, (some 5), none, .mov (.t 23), []⟩]) (.seq (.seq (.ops [⟨0, (some 24), none, .mov (.t 4), []⟩, ⟨1, (some 25), none, .len (.t 24), []⟩, ⟨2, (some 26), none, .bin .gtr (.t 25) (.c (.int .i64 1024)), []⟩, ⟨3, (some 27), none, .mov (.t 26), []⟩, ⟨4, (some 28), (some (27, false)), .mov (.t 5), []⟩, ⟨5, (some 29), (some (27, false)), .len (.t 28), []⟩, ⟨6, (some 30), (some (27, false)), .bin .gtr (.t 29) (.c (.int .i64 1024)), []⟩, ⟨7, (some 31), none, .pick (.t 27) (.c (.bool true)) (.t 30), []⟩]) (.ite (.t 31) (.seq (.ops [⟨0, (some 2), none, .mov (.c (.bool true)), []⟩]) .ret) .skip)) (.seq (.ops [⟨0, (some 33), none, .ldn 2 (.t 3), []⟩, ⟨1, (some 34), none, .fad 1 (.t 1), []⟩, ⟨2, (some 35), none, .ld (.t 34), []⟩, ⟨3, (some 36), none, .mov (.t 4), []⟩, ⟨4, (some 37), none, .mov (.t 5), []⟩, ⟨5, (some 38), none, .call (.c (.func (.func 26) #[] #[])) [.t 33, .t 35, .t 36, .t 37], []⟩, ⟨6, (some 32), none, .mov (.t 38), []⟩, ⟨7, (some 39), none, .ext (.t 32) 0, []⟩, ⟨8, (some 40), none, .ext (.t 32) 1, []⟩, ⟨9, (some 41), none, .ext (.t 32) 2, []⟩, ⟨10, (some 6), none, .mov (.t 39), []⟩, ⟨11, (some 7), none, .mov (.t 40), []⟩, ⟨12, (some 8), none, .mov (.t 41), []⟩]) (.seq (.seq (.ops [⟨0, (some 42), none, .mov (.t 5), []⟩, ⟨1, (some 43), none, .call (.c (.func (.func 27) #[] #[])) [.t 42], []⟩, ⟨2, (some 44), none, .bin .lss (.t 43) (.c (.int .i64 0)), []⟩]) (.ite (.t 44) (.seq (.ops [⟨0, (some 45), none, .mov (.t 8), []⟩, ⟨1, (some 46), none, .bin .eql (.t 45) (.c (.int .i64 40)), []⟩, ⟨2, (some 47), none, .mov (.t 46), []⟩, ⟨3, (some 48), (some (47, true)), .mov (.t 6), []⟩, ⟨4, (some 49), (some (47, true)), .len (.t 48), []⟩, ⟨5, (some 50), (some (47, true)), .bin .eql (.t 49) (.c (.int .i64 0)), []⟩, ⟨6, (some 51), none, .pick (.t 47) (.t 50) (.c (.bool false)), []⟩, ⟨7, (some 52), none, .mov (.t 51), []⟩, ⟨8, (some 53), (some (52, true)), .mov (.t 7), []⟩, ⟨9, (some 54), (some (52, true)), .len (.t 53), []⟩, ⟨10, (some 55), (some (52, true)), .bin .eql (.t 54) (.c (.int .i64 0)), []⟩, ⟨11, (some 56), none, .pick (.t 52) (.t 55) (.c (.bool false)), []⟩, ⟨12, (some 2), none, .mov (.t 56), []⟩]) .ret) .skip)) (.seq (.seq (.ops [⟨0, (some 57), none, .mov (.t 8), []⟩, ⟨1, (some 58), none, .bin .neq (.t 57) (.c (.int .i64 0)), []⟩, ⟨2, (some 59), none, .mov (.t 58), []⟩, ⟨3, (some 60), (some (59, false)), .mov (.t 6), []⟩, ⟨4, (some 61), (some (59, false)), .call (.c (.func (.func 21) #[] #[])) [.t 60], []⟩, ⟨5, (some 62), (some (59, false)), .un .not (.t 61), []⟩, ⟨6, (some 63), none, .pick (.t 59) (.c (.bool true)) (.t 62), []⟩, ⟨7, (some 64), none, .mov (.t 63), []⟩, ⟨8, (some 65), (some (64, false)), .mov (.t 7), []⟩, ⟨9, (some 66), (some (64, false)), .call (.c (.func (.func 21) #[] #[])) [.t 65], []⟩, ⟨10, (some 67), (some (64, false)), .un .not (.t 66), []⟩, ⟨11, (some 68), none, .pick (.t 64) (.c (.bool true)) (.t 67), []⟩, ⟨12, (some 69), none, .mov (.t 68), []⟩, ⟨13, (some 70), (some (69, false)), .mov (.t 7), []⟩, ⟨14, (some 71), (some (69, false)), .call (.c (.func (.func 27) #[] #[])) [.t 70], []⟩, ⟨15, (some 72), (some (69, false)), .mov (.t 5), []⟩, ⟨16, (some 73), (some (69, false)), .call (.c (.func (.func 27) #[] #[])) [.t 72], []⟩, ⟨17, (some 74), (some (69, false)), .bin .geq (.t 71) (.t 73), []⟩, ⟨18, (some 75), none, .pick (.t 69) (.c (.bool true)) (.t 74), []⟩, ⟨19, (some 76), none, .mov (.t 75), []⟩, ⟨20, (some 77), (some (76, false)), .mov (.t 6), []⟩, ⟨21, (some 78), (some (76, false)), .len (.t 77), []⟩, ⟨22, (some 79), (some (76, false)), .bin .gtr (.t 78) (.c (.int .i64 1024)), []⟩, ⟨23, (some 80), none, .pick (.t 76) (.c (.bool true)) (.t 79), []⟩]) (.ite (.t 80) (.seq (.ops [⟨0, (some 2), none, .mov (.c (.bool false)), []⟩]) .ret) .skip)) (.seq (.ops [⟨0, (some 82), none, .ldn 2 (.t 3), []⟩, ⟨1, (some 83), none, .fad 1 (.t 1), []⟩, ⟨2, (some 84), none, .ld (.t 83), []⟩, ⟨3, (some 85), none, .mov (.t 6), []⟩, ⟨4, (some 86), none, .mov (.t 5), []⟩, ⟨5, (some 87), none, .call (.c (.func (.func 13) #[] #[])) [.t 82, .t 84, .t 85, .t 86], []⟩, ⟨6, (some 81), none, .mov (.t 87), []⟩, ⟨7, (some 88), none, .ext (.t 81) 0, []⟩, ⟨8, (some 89), none, .ext (.t 81) 1, []⟩, ⟨9, (some 9), none, .mov (.t 88), []⟩, ⟨10, (some 8), none, .mov (.t 89), []⟩]) (.seq (.dops [⟨0, (some 90), none, .mov (.t 8), []⟩, ⟨1, (some 91), none, .bin .eql (.t 90) (.c (.int .i64 0)), []⟩, ⟨2, (some 92), none, .mov (.t 91), []⟩, ⟨3, (some 93), (some (92, true)), .ldn 2 (.t 3), []⟩, ⟨4, (some 94), (some (92, true)), .fad 1 (.t 1), []⟩, ⟨5, (some 95), (some (92, true)), .ld (.t 94), []⟩, ⟨6, (some 96), (some (92, true)), .mov (.t 9), []⟩, ⟨7, (some 97), (some (92, true)), .mov (.t 7), []⟩, ⟨8, (some 98), (some (92, true)), .call (.c (.func (.func 24) #[] #[])) [.t 93, .t 95, .t 96, .t 97], []⟩, ⟨9, (some 99), (some (92, true)), .ldn 2 (.t 3), [8]⟩, ⟨10, (some 100), (some (92, true)), .fad 1 (.t 1), []⟩, ⟨11, (some 101), (some (92, true)), .ld (.t 100), [8]⟩, ⟨12, (some 102), (some (92, true)), .mov (.t 4), []⟩, ⟨13, (some 103), (some (92, true)), .call (.c (.func (.func 22) #[] #[])) [.t 99, .t 101, .t 102], []⟩, ⟨14, (some 104), (some (92, true)), .call (.c (.func (.func 15) #[] #[])) [.t 98, .t 103], []⟩, ⟨15, (some 105), none, .pick (.t 92) (.t 104) (.c (.bool false)), []⟩, ⟨16, (some 2), none, .mov (.t 105), []⟩]) .ret))))))))))
theorem run_culletlaw04_PolysDivides {args : List Value} {w : World} {K : Value → World → Prop} (hn : args.length ≤ 106) (h : WP Try.prog c_culletlaw04_PolysDivides (endQ [.t 2] K) (initT args) w) : CallV Try.prog 8 args w K :=
  call_of follows Try.func8 (by kernel_rfl) (by kernel_rfl) hn h
end Go.Proofs.Ytcdagkcchfibjaa.Fw
namespace Go.Proofs.Ytcdagkcchfibjaa.Fw
open Go Go.Fw
theorem culletlaw04_PolysDivides_w_spec (w : World) (k n : Int) (F G : Value) (LF LG : List (El 16)) (X : El 16) (hF : Sl w F LF) (hG : Sl w G LG) (hlF : LF.length ≤ 70368744175616) (hlG : LG.length ≤ 70368744175616) :
    CallV Try.prog 8 [.agg #[.int .i64 k, .bool true, F, G, .int .u16 (X.v.toNat : Int), .int .i64 n]] w fun v w' => v = .bool true ∧ RowKit.Below w.heap.size w w' := by
  refine run_culletlaw04_PolysDivides (by simp) ?_
  simp only [c_culletlaw04_PolysDivides, List.getElem_cons_zero, List.getElem_cons_succ, and_true, true_and, decide_true, decide_false, Bool.not_true, Bool.not_false, lZ39, lZ30, lZ42, lZ18, lZ27, lZ38, lZ25, lZ1, lZ4, lZ6, lZ0, lZ2, lZ3, lZ55, lZ44, lZ29, I.at, atL, atO, atP, lZ15, lZ14, lZ98, lZ97, evp, evs, lZ9, ↓reduceIte, Nat.reduceEqDiff, reduceCtorEq, Value.bool.injEq, Bool.false_eq_true, Bool.true_eq_false, lZ11, lZ7, lZ71, lZ43, lZ82, lZ90, lZ70, lZ86, lZ96, lZ93, lZ16, lZ83, lZ60, lZ57, lZ45, lZ67, lZ61, lZ69, lZ81, lZ49, lZ51, lZ56, lZ89, lZ59, lZ37, lZ72, lZ53, lZ34, lZ75, lZ73, lZ79, lZ41, bff, btf, Option.isNone_some, Option.isNone_none, lZ10, lZ19, lZ5, retV, lZ40, lZ31, lZ22, lZ26, lZ20, List.getD_cons_zero, List.getD_cons_succ]
  refine X_box fun bo w1 hro hbo hB => ?_
  have hro : Row w1 bo [.int .i64 k, .bool true, F, G, .int .u16 (X.v.toNat : Int), .int .i64 n] := hro
  have hF := hF.up hB
  have hG := hG.up hB
  have B1 : RowKit.Below w.heap.size w w1 := hB
  clear hB
  simp only [List.getElem_cons_zero, List.getElem_cons_succ, and_true, true_and, decide_true, decide_false, Bool.not_true, Bool.not_false, lZ39, lZ30, lZ42, lZ18, lZ27, lZ38, lZ25, lZ1, lZ4, lZ6, lZ0, lZ2, lZ3, lZ55, lZ44, lZ29, I.at, atL, atO, atP, lZ15, lZ14, lZ98, lZ97, evp, evs, lZ9, ↓reduceIte, Nat.reduceEqDiff, reduceCtorEq, Value.bool.injEq, Bool.false_eq_true, Bool.true_eq_false, lZ11, lZ7, lZ71, lZ43, lZ82, lZ90, lZ70, lZ86, lZ96, lZ93, lZ16, lZ83, lZ60, lZ57, lZ45, lZ67, lZ61, lZ69, lZ81, lZ49, lZ51, lZ56, lZ89, lZ59, lZ37, lZ72, lZ53, lZ34, lZ75, lZ73, lZ79, lZ41, bff, btf, Option.isNone_some, Option.isNone_none, lZ10, lZ19, lZ5, retV, lZ40, lZ31, lZ22, lZ26, lZ20, List.getD_cons_zero, List.getD_cons_succ]
  refine X_call0 ((culletlaw04_both_spec w1).mono ?_)
  rintro _ w2 ⟨rb, rw, rfl, hb, hw, hB⟩
  have hF := hF.up hB
  have hG := hG.up hB
  have hro := hro.up hB
  have B2 : RowKit.Below w.heap.size w w2 := B1.trans (hB.mono B1.size)
  clear hB B1
  simp only [List.getElem_cons_zero, List.getElem_cons_succ, and_true, true_and, decide_true, decide_false, Bool.not_true, Bool.not_false, lZ39, lZ30, lZ42, lZ18, lZ27, lZ38, lZ25, lZ1, lZ4, lZ6, lZ0, lZ2, lZ3, lZ55, lZ44, lZ29, I.at, atL, atO, atP, lZ15, lZ14, lZ98, lZ97, evp, evs, lZ9, ↓reduceIte, Nat.reduceEqDiff, reduceCtorEq, Value.bool.injEq, Bool.false_eq_true, Bool.true_eq_false, lZ11, lZ7, lZ71, lZ43, lZ82, lZ90, lZ70, lZ86, lZ96, lZ93, lZ16, lZ83, lZ60, lZ57, lZ45, lZ67, lZ61, lZ69, lZ81, lZ49, lZ51, lZ56, lZ89, lZ59, lZ37, lZ72, lZ53, lZ34, lZ75, lZ73, lZ79, lZ41, bff, btf, Option.isNone_some, Option.isNone_none, lZ10, lZ19, lZ5, retV, lZ40, lZ31, lZ22, lZ26, lZ20, List.getD_cons_zero, List.getD_cons_succ]
  refine X_alloc fun b3 w0 hr3 hb3 hB => ?_
  have s8 : scal rb = true := by obtain ⟨_, _, _, rfl, _⟩ := hb; rfl
  have s16 : scal rw = true := by obtain ⟨_, _, _, rfl, _⟩ := hw; rfl
  simp only [List.getElem_cons_zero, List.getElem_cons_succ, and_true, true_and, decide_true, decide_false, Bool.not_true, Bool.not_false, lZ39, lZ30, lZ42, lZ18, lZ27, lZ38, lZ25, lZ1, lZ4, lZ6, lZ0, lZ2, lZ3, lZ55, lZ44, lZ29, I.at, atL, atO, atP, lZ15, lZ14, lZ98, lZ97, evp, evs, lZ9, ↓reduceIte, Nat.reduceEqDiff, reduceCtorEq, Value.bool.injEq, Bool.false_eq_true, Bool.true_eq_false, lZ11, lZ7, lZ71, lZ43, lZ82, lZ90, lZ70, lZ86, lZ96, lZ93, lZ16, lZ83, lZ60, lZ57, lZ45, lZ67, lZ61, lZ69, lZ81, lZ49, lZ51, lZ56, lZ89, lZ59, lZ37, lZ72, lZ53, lZ34, lZ75, lZ73, lZ79, lZ41, bff, btf, Option.isNone_some, Option.isNone_none, lZ10, lZ19, lZ5, retV, lZ40, lZ31, lZ22, lZ26, lZ20, List.getD_cons_zero, List.getD_cons_succ]
  refine Row.Xstn (vs := [rb, rw]) hr3 rfl (by simp [s8, s16]) (by simp) fun w3 hr hg => ?_
  have hB := Below.row hB hb3 hg
  clear hg hr3 hb3
  have hF := hF.up hB
  have hG := hG.up hB
  have hro := hro.up hB
  have hb := hb.up hB
  have hw := hw.up hB
  have B3 : RowKit.Below w.heap.size w w3 := B2.trans (hB.mono B2.size)
  clear hB B2
  simp only [List.getElem_cons_zero, List.getElem_cons_succ, and_true, true_and, decide_true, decide_false, Bool.not_true, Bool.not_false, lZ39, lZ30, lZ42, lZ18, lZ27, lZ38, lZ25, lZ1, lZ4, lZ6, lZ0, lZ2, lZ3, lZ55, lZ44, lZ29, I.at, atL, atO, atP, lZ15, lZ14, lZ98, lZ97, evp, evs, lZ9, ↓reduceIte, Nat.reduceEqDiff, reduceCtorEq, Value.bool.injEq, Bool.false_eq_true, Bool.true_eq_false, lZ11, lZ7, lZ71, lZ43, lZ82, lZ90, lZ70, lZ86, lZ96, lZ93, lZ16, lZ83, lZ60, lZ57, lZ45, lZ67, lZ61, lZ69, lZ81, lZ49, lZ51, lZ56, lZ89, lZ59, lZ37, lZ72, lZ53, lZ34, lZ75, lZ73, lZ79, lZ41, bff, btf, Option.isNone_some, Option.isNone_none, lZ10, lZ19, lZ5, retV, lZ40, lZ31, lZ22, lZ26, lZ20, List.getD_cons_zero, List.getD_cons_succ, hr.Xldn (n := 2) rfl]
  refine X_call0 ((culletlaw04_awake_spec w3 rb rw hb hw).mono ?_)
  rintro _ w4 ⟨rfl, hB⟩
  have hF := hF.up hB
  have hG := hG.up hB
  have hro := hro.up hB
  have hb := hb.up hB
  have hw := hw.up hB
  have hr := hr.up hB
  have B4 : RowKit.Below w.heap.size w w4 := B3.trans (hB.mono B3.size)
  clear hB B3
  simp only [List.getElem_cons_zero, List.getElem_cons_succ, and_true, true_and, decide_true, decide_false, Bool.not_true, Bool.not_false, lZ39, lZ30, lZ42, lZ18, lZ27, lZ38, lZ25, lZ1, lZ4, lZ6, lZ0, lZ2, lZ3, lZ55, lZ44, lZ29, I.at, atL, atO, atP, lZ15, lZ14, lZ98, lZ97, evp, evs, lZ9, ↓reduceIte, Nat.reduceEqDiff, reduceCtorEq, Value.bool.injEq, Bool.false_eq_true, Bool.true_eq_false, lZ11, lZ7, lZ71, lZ43, lZ82, lZ90, lZ70, lZ86, lZ96, lZ93, lZ16, lZ83, lZ60, lZ57, lZ45, lZ67, lZ61, lZ69, lZ81, lZ49, lZ51, lZ56, lZ89, lZ59, lZ37, lZ72, lZ53, lZ34, lZ75, lZ73, lZ79, lZ41, bff, btf, Option.isNone_some, Option.isNone_none, lZ10, lZ19, lZ5, retV, lZ40, lZ31, lZ22, lZ26, lZ20, List.getD_cons_zero, List.getD_cons_succ]
  simp only [List.getElem_cons_zero, List.getElem_cons_succ, and_true, true_and, decide_true, decide_false, Bool.not_true, Bool.not_false, lZ39, lZ30, lZ42, lZ18, lZ27, lZ38, lZ25, lZ1, lZ4, lZ6, lZ0, lZ2, lZ3, lZ55, lZ44, lZ29, I.at, atL, atO, atP, lZ15, lZ14, lZ98, lZ97, evp, evs, lZ9, ↓reduceIte, Nat.reduceEqDiff, reduceCtorEq, Value.bool.injEq, Bool.false_eq_true, Bool.true_eq_false, lZ11, lZ7, lZ71, lZ43, lZ82, lZ90, lZ70, lZ86, lZ96, lZ93, lZ16, lZ83, lZ60, lZ57, lZ45, lZ67, lZ61, lZ69, lZ81, lZ49, lZ51, lZ56, lZ89, lZ59, lZ37, lZ72, lZ53, lZ34, lZ75, lZ73, lZ79, lZ41, bff, btf, Option.isNone_some, Option.isNone_none, lZ10, lZ19, lZ5, retV, lZ40, lZ31, lZ22, lZ26, lZ20, List.getD_cons_zero, List.getD_cons_succ, addr_add0, Nat.zero_add, Nat.add_zero, hro.Xld (show 1 < _ by simp), hro.Xld (show 2 < _ by simp)]
  refine X_call0 ((culletlaw04_cut_w_spec w4 F LF hF hlF).mono ?_)
  rintro P w5 ⟨hP, hB⟩
  have hP := hP.sl
  have hF := hF.up hB
  have hG := hG.up hB
  have hro := hro.up hB
  have hb := hb.up hB
  have hw := hw.up hB
  have hr := hr.up hB
  have B5 : RowKit.Below w.heap.size w w5 := B4.trans (hB.mono B4.size)
  clear hB B4
  generalize hqQ : LF.map lo16 = Q at hP
  have lP : (Q.map em16).length = Q.length := List.length_map _
  have bQ : Q.length ≤ 70368744175616 := by rw [← hqQ, List.length_map]; exact hlF
  simp only [List.getElem_cons_zero, List.getElem_cons_succ, and_true, true_and, decide_true, decide_false, Bool.not_true, Bool.not_false, lZ39, lZ30, lZ42, lZ18, lZ27, lZ38, lZ25, lZ1, lZ4, lZ6, lZ0, lZ2, lZ3, lZ55, lZ44, lZ29, I.at, atL, atO, atP, lZ15, lZ14, lZ98, lZ97, evp, evs, lZ9, ↓reduceIte, Nat.reduceEqDiff, reduceCtorEq, Value.bool.injEq, Bool.false_eq_true, Bool.true_eq_false, lZ11, lZ7, lZ71, lZ43, lZ82, lZ90, lZ70, lZ86, lZ96, lZ93, lZ16, lZ83, lZ60, lZ57, lZ45, lZ67, lZ61, lZ69, lZ81, lZ49, lZ51, lZ56, lZ89, lZ59, lZ37, lZ72, lZ53, lZ34, lZ75, lZ73, lZ79, lZ41, bff, btf, Option.isNone_some, Option.isNone_none, lZ10, lZ19, lZ5, retV, lZ40, lZ31, lZ22, lZ26, lZ20, List.getD_cons_zero, List.getD_cons_succ, addr_add0, Nat.zero_add, Nat.add_zero, hro.Xld (show 1 < _ by simp), hro.Xld (show 3 < _ by simp)]
  refine X_call0 ((culletlaw04_cut_w_spec w5 G LG hG hlG).mono ?_)
  rintro P2 w6 ⟨hP2, hB⟩
  have hP2 := hP2.sl
  have hG := hG.up hB
  have hro := hro.up hB
  have hb := hb.up hB
  have hw := hw.up hB
  have hr := hr.up hB
  have hP := hP.up hB
  have B6 : RowKit.Below w.heap.size w w6 := B5.trans (hB.mono B5.size)
  clear hB B5
  generalize hqQ2 : LG.map lo16 = Q2 at hP2
  have lP2 : (Q2.map em16).length = Q2.length := List.length_map _
  have bQ2 : Q2.length ≤ 70368744175616 := by rw [← hqQ2, List.length_map]; exact hlG
  simp only [List.getElem_cons_zero, List.getElem_cons_succ, and_true, true_and, decide_true, decide_false, Bool.not_true, Bool.not_false, lZ39, lZ30, lZ42, lZ18, lZ27, lZ38, lZ25, lZ1, lZ4, lZ6, lZ0, lZ2, lZ3, lZ55, lZ44, lZ29, I.at, atL, atO, atP, lZ15, lZ14, lZ98, lZ97, evp, evs, lZ9, ↓reduceIte, Nat.reduceEqDiff, reduceCtorEq, Value.bool.injEq, Bool.false_eq_true, Bool.true_eq_false, lZ11, lZ7, lZ71, lZ43, lZ82, lZ90, lZ70, lZ86, lZ96, lZ93, lZ16, lZ83, lZ60, lZ57, lZ45, lZ67, lZ61, lZ69, lZ81, lZ49, lZ51, lZ56, lZ89, lZ59, lZ37, lZ72, lZ53, lZ34, lZ75, lZ73, lZ79, lZ41, bff, btf, Option.isNone_some, Option.isNone_none, lZ10, lZ19, lZ5, retV, lZ40, lZ31, lZ22, lZ26, lZ20, List.getD_cons_zero, List.getD_cons_succ, hP.Xlen, lP]
  by_cases hbig : 1024 < Q.length
  · simp only [List.getElem_cons_zero, List.getElem_cons_succ, and_true, true_and, decide_true, decide_false, Bool.not_true, Bool.not_false, lZ39, lZ30, lZ42, lZ18, lZ27, lZ38, lZ25, lZ1, lZ4, lZ6, lZ0, lZ2, lZ3, lZ55, lZ44, lZ29, I.at, atL, atO, atP, lZ15, lZ14, lZ98, lZ97, evp, evs, lZ9, ↓reduceIte, Nat.reduceEqDiff, reduceCtorEq, Value.bool.injEq, Bool.false_eq_true, Bool.true_eq_false, lZ11, lZ7, lZ71, lZ43, lZ82, lZ90, lZ70, lZ86, lZ96, lZ93, lZ16, lZ83, lZ60, lZ57, lZ45, lZ67, lZ61, lZ69, lZ81, lZ49, lZ51, lZ56, lZ89, lZ59, lZ37, lZ72, lZ53, lZ34, lZ75, lZ73, lZ79, lZ41, bff, btf, Option.isNone_some, Option.isNone_none, lZ10, lZ19, lZ5, retV, lZ40, lZ31, lZ22, lZ26, lZ20, List.getD_cons_zero, List.getD_cons_succ, show decide ((1024 : Int) < (Q.length : Int)) = true from decide_eq_true (by omega)]
    exact B6
  simp only [List.getElem_cons_zero, List.getElem_cons_succ, and_true, true_and, decide_true, decide_false, Bool.not_true, Bool.not_false, lZ39, lZ30, lZ42, lZ18, lZ27, lZ38, lZ25, lZ1, lZ4, lZ6, lZ0, lZ2, lZ3, lZ55, lZ44, lZ29, I.at, atL, atO, atP, lZ15, lZ14, lZ98, lZ97, evp, evs, lZ9, ↓reduceIte, Nat.reduceEqDiff, reduceCtorEq, Value.bool.injEq, Bool.false_eq_true, Bool.true_eq_false, lZ11, lZ7, lZ71, lZ43, lZ82, lZ90, lZ70, lZ86, lZ96, lZ93, lZ16, lZ83, lZ60, lZ57, lZ45, lZ67, lZ61, lZ69, lZ81, lZ49, lZ51, lZ56, lZ89, lZ59, lZ37, lZ72, lZ53, lZ34, lZ75, lZ73, lZ79, lZ41, bff, btf, Option.isNone_some, Option.isNone_none, lZ10, lZ19, lZ5, retV, lZ40, lZ31, lZ22, lZ26, lZ20, List.getD_cons_zero, List.getD_cons_succ, hP2.Xlen, lP2, show decide ((1024 : Int) < (Q.length : Int)) = false from decide_eq_false (by omega)]
  by_cases hbig2 : 1024 < Q2.length
  · simp only [List.getElem_cons_zero, List.getElem_cons_succ, and_true, true_and, decide_true, decide_false, Bool.not_true, Bool.not_false, lZ39, lZ30, lZ42, lZ18, lZ27, lZ38, lZ25, lZ1, lZ4, lZ6, lZ0, lZ2, lZ3, lZ55, lZ44, lZ29, I.at, atL, atO, atP, lZ15, lZ14, lZ98, lZ97, evp, evs, lZ9, ↓reduceIte, Nat.reduceEqDiff, reduceCtorEq, Value.bool.injEq, Bool.false_eq_true, Bool.true_eq_false, lZ11, lZ7, lZ71, lZ43, lZ82, lZ90, lZ70, lZ86, lZ96, lZ93, lZ16, lZ83, lZ60, lZ57, lZ45, lZ67, lZ61, lZ69, lZ81, lZ49, lZ51, lZ56, lZ89, lZ59, lZ37, lZ72, lZ53, lZ34, lZ75, lZ73, lZ79, lZ41, bff, btf, Option.isNone_some, Option.isNone_none, lZ10, lZ19, lZ5, retV, lZ40, lZ31, lZ22, lZ26, lZ20, List.getD_cons_zero, List.getD_cons_succ, show decide ((1024 : Int) < (Q2.length : Int)) = true from decide_eq_true (by omega)]
    exact B6
  simp only [List.getElem_cons_zero, List.getElem_cons_succ, and_true, true_and, decide_true, decide_false, Bool.not_true, Bool.not_false, lZ39, lZ30, lZ42, lZ18, lZ27, lZ38, lZ25, lZ1, lZ4, lZ6, lZ0, lZ2, lZ3, lZ55, lZ44, lZ29, I.at, atL, atO, atP, lZ15, lZ14, lZ98, lZ97, evp, evs, lZ9, ↓reduceIte, Nat.reduceEqDiff, reduceCtorEq, Value.bool.injEq, Bool.false_eq_true, Bool.true_eq_false, lZ11, lZ7, lZ71, lZ43, lZ82, lZ90, lZ70, lZ86, lZ96, lZ93, lZ16, lZ83, lZ60, lZ57, lZ45, lZ67, lZ61, lZ69, lZ81, lZ49, lZ51, lZ56, lZ89, lZ59, lZ37, lZ72, lZ53, lZ34, lZ75, lZ73, lZ79, lZ41, bff, btf, Option.isNone_some, Option.isNone_none, lZ10, lZ19, lZ5, retV, lZ40, lZ31, lZ22, lZ26, lZ20, List.getD_cons_zero, List.getD_cons_succ, show decide ((1024 : Int) < (Q2.length : Int)) = false from decide_eq_false (by omega), hr.Xldn (n := 2) rfl, addr_add0, Nat.zero_add, Nat.add_zero, hro.Xld (show 1 < _ by simp)]
  have tQ := tln_le Q
  have tQ2 := tln_le Q2
  refine X_call0 ((culletlaw04_Rings_divMod_w_spec w6 rb rw P P2 (Q.map em16) (Q2.map em16) hb hw hP hP2 (by omega) (by omega)).mono ?_)
  rw [lo16_map_em16, lo16_map_em16]
  rintro _ w7 ⟨hB, ⟨-, -, hz, sq, sm, q, m, rfl, oq, om, tq, tm, hco, hml, hql⟩ | ⟨-, -, h0, sq, sm, rfl, oq, om⟩ | ⟨hn, -⟩⟩
  rotate_left
  · have hP2 := hP2.up hB
    have B7 := B6.trans (hB.mono B6.size)
    simp only [List.getElem_cons_zero, List.getElem_cons_succ, and_true, true_and, decide_true, decide_false, Bool.not_true, Bool.not_false, lZ39, lZ30, lZ42, lZ18, lZ27, lZ38, lZ25, lZ1, lZ4, lZ6, lZ0, lZ2, lZ3, lZ55, lZ44, lZ29, I.at, atL, atO, atP, lZ15, lZ14, lZ98, lZ97, evp, evs, lZ9, ↓reduceIte, Nat.reduceEqDiff, reduceCtorEq, Value.bool.injEq, Bool.false_eq_true, Bool.true_eq_false, lZ11, lZ7, lZ71, lZ43, lZ82, lZ90, lZ70, lZ86, lZ96, lZ93, lZ16, lZ83, lZ60, lZ57, lZ45, lZ67, lZ61, lZ69, lZ81, lZ49, lZ51, lZ56, lZ89, lZ59, lZ37, lZ72, lZ53, lZ34, lZ75, lZ73, lZ79, lZ41, bff, btf, Option.isNone_some, Option.isNone_none, lZ10, lZ19, lZ5, retV, lZ40, lZ31, lZ22, lZ26, lZ20, List.getD_cons_zero, List.getD_cons_succ]
    refine X_call0 ((culletlaw04_high_spec w7 P2 (Q2.map em16) hP2 (by omega)).mono ?_)
    rintro _ w' ⟨rfl, rfl⟩
    rw [tln_em16, h0]
    simp only [List.getElem_cons_zero, List.getElem_cons_succ, and_true, true_and, decide_true, decide_false, Bool.not_true, Bool.not_false, lZ39, lZ30, lZ42, lZ18, lZ27, lZ38, lZ25, lZ1, lZ4, lZ6, lZ0, lZ2, lZ3, lZ55, lZ44, lZ29, I.at, atL, atO, atP, lZ15, lZ14, lZ98, lZ97, evp, evs, lZ9, ↓reduceIte, Nat.reduceEqDiff, reduceCtorEq, Value.bool.injEq, Bool.false_eq_true, Bool.true_eq_false, lZ11, lZ7, lZ71, lZ43, lZ82, lZ90, lZ70, lZ86, lZ96, lZ93, lZ16, lZ83, lZ60, lZ57, lZ45, lZ67, lZ61, lZ69, lZ81, lZ49, lZ51, lZ56, lZ89, lZ59, lZ37, lZ72, lZ53, lZ34, lZ75, lZ73, lZ79, lZ41, bff, btf, Option.isNone_some, Option.isNone_none, lZ10, lZ19, lZ5, retV, lZ40, lZ31, lZ22, lZ26, lZ20, List.getD_cons_zero, List.getD_cons_succ, show decide (((0 : Nat) : Int) - 1 < 0) = true from rfl, show decide ((40 : Int) = 40) = true from rfl, oq.sl.Xlen, om.sl.Xlen, List.length_nil, show decide (((0 : Nat) : Int) = 0) = true from rfl]
    exact B7
  · exact absurd ⟨by omega, by omega⟩ hn
  have oq := oq.sl
  have om := om.sl
  have hro := hro.up hB
  have hb := hb.up hB
  have hw := hw.up hB
  have hr := hr.up hB
  have hP := hP.up hB
  have hP2 := hP2.up hB
  have B7 : RowKit.Below w.heap.size w w7 := B6.trans (hB.mono B6.size)
  clear hB B6
  have lq : (q.map em16).length = q.length := List.length_map _
  have lm : (m.map em16).length = m.length := List.length_map _
  simp only [List.getElem_cons_zero, List.getElem_cons_succ, and_true, true_and, decide_true, decide_false, Bool.not_true, Bool.not_false, lZ39, lZ30, lZ42, lZ18, lZ27, lZ38, lZ25, lZ1, lZ4, lZ6, lZ0, lZ2, lZ3, lZ55, lZ44, lZ29, I.at, atL, atO, atP, lZ15, lZ14, lZ98, lZ97, evp, evs, lZ9, ↓reduceIte, Nat.reduceEqDiff, reduceCtorEq, Value.bool.injEq, Bool.false_eq_true, Bool.true_eq_false, lZ11, lZ7, lZ71, lZ43, lZ82, lZ90, lZ70, lZ86, lZ96, lZ93, lZ16, lZ83, lZ60, lZ57, lZ45, lZ67, lZ61, lZ69, lZ81, lZ49, lZ51, lZ56, lZ89, lZ59, lZ37, lZ72, lZ53, lZ34, lZ75, lZ73, lZ79, lZ41, bff, btf, Option.isNone_some, Option.isNone_none, lZ10, lZ19, lZ5, retV, lZ40, lZ31, lZ22, lZ26, lZ20, List.getD_cons_zero, List.getD_cons_succ]
  refine X_call0 ((culletlaw04_high_spec w7 P2 (Q2.map em16) hP2 (by omega)).mono ?_)
  rintro _ w8 ⟨rfl, rfl⟩
  have B8 := B7
  rw [tln_em16]
  simp only [List.getElem_cons_zero, List.getElem_cons_succ, and_true, true_and, decide_true, decide_false, Bool.not_true, Bool.not_false, lZ39, lZ30, lZ42, lZ18, lZ27, lZ38, lZ25, lZ1, lZ4, lZ6, lZ0, lZ2, lZ3, lZ55, lZ44, lZ29, I.at, atL, atO, atP, lZ15, lZ14, lZ98, lZ97, evp, evs, lZ9, ↓reduceIte, Nat.reduceEqDiff, reduceCtorEq, Value.bool.injEq, Bool.false_eq_true, Bool.true_eq_false, lZ11, lZ7, lZ71, lZ43, lZ82, lZ90, lZ70, lZ86, lZ96, lZ93, lZ16, lZ83, lZ60, lZ57, lZ45, lZ67, lZ61, lZ69, lZ81, lZ49, lZ51, lZ56, lZ89, lZ59, lZ37, lZ72, lZ53, lZ34, lZ75, lZ73, lZ79, lZ41, bff, btf, Option.isNone_some, Option.isNone_none, lZ10, lZ19, lZ5, retV, lZ40, lZ31, lZ22, lZ26, lZ20, List.getD_cons_zero, List.getD_cons_succ, show decide ((tln Q2 : Int) - 1 < 0) = false from decide_eq_false (by omega), show decide ((0 : Int) = 0) = true from rfl]
  refine X_call0 ((culletlaw04_neat_spec w8 sq (q.map em16) oq (by omega)).mono ?_)
  rintro _ w9 ⟨rfl, rfl⟩
  have B9 := B8
  rw [show decide ((q.map em16).length = tln (q.map em16)) = true from decide_eq_true (by rw [tln_em16, lq]; exact len_tr tq)]
  simp only [List.getElem_cons_zero, List.getElem_cons_succ, and_true, true_and, decide_true, decide_false, Bool.not_true, Bool.not_false, lZ39, lZ30, lZ42, lZ18, lZ27, lZ38, lZ25, lZ1, lZ4, lZ6, lZ0, lZ2, lZ3, lZ55, lZ44, lZ29, I.at, atL, atO, atP, lZ15, lZ14, lZ98, lZ97, evp, evs, lZ9, ↓reduceIte, Nat.reduceEqDiff, reduceCtorEq, Value.bool.injEq, Bool.false_eq_true, Bool.true_eq_false, lZ11, lZ7, lZ71, lZ43, lZ82, lZ90, lZ70, lZ86, lZ96, lZ93, lZ16, lZ83, lZ60, lZ57, lZ45, lZ67, lZ61, lZ69, lZ81, lZ49, lZ51, lZ56, lZ89, lZ59, lZ37, lZ72, lZ53, lZ34, lZ75, lZ73, lZ79, lZ41, bff, btf, Option.isNone_some, Option.isNone_none, lZ10, lZ19, lZ5, retV, lZ40, lZ31, lZ22, lZ26, lZ20, List.getD_cons_zero, List.getD_cons_succ]
  refine X_call0 ((culletlaw04_neat_spec w9 sm (m.map em16) om (by omega)).mono ?_)
  rintro _ w10 ⟨rfl, rfl⟩
  have B10 := B9
  rw [show decide ((m.map em16).length = tln (m.map em16)) = true from decide_eq_true (by rw [tln_em16, lm]; exact len_tr tm)]
  simp only [List.getElem_cons_zero, List.getElem_cons_succ, and_true, true_and, decide_true, decide_false, Bool.not_true, Bool.not_false, lZ39, lZ30, lZ42, lZ18, lZ27, lZ38, lZ25, lZ1, lZ4, lZ6, lZ0, lZ2, lZ3, lZ55, lZ44, lZ29, I.at, atL, atO, atP, lZ15, lZ14, lZ98, lZ97, evp, evs, lZ9, ↓reduceIte, Nat.reduceEqDiff, reduceCtorEq, Value.bool.injEq, Bool.false_eq_true, Bool.true_eq_false, lZ11, lZ7, lZ71, lZ43, lZ82, lZ90, lZ70, lZ86, lZ96, lZ93, lZ16, lZ83, lZ60, lZ57, lZ45, lZ67, lZ61, lZ69, lZ81, lZ49, lZ51, lZ56, lZ89, lZ59, lZ37, lZ72, lZ53, lZ34, lZ75, lZ73, lZ79, lZ41, bff, btf, Option.isNone_some, Option.isNone_none, lZ10, lZ19, lZ5, retV, lZ40, lZ31, lZ22, lZ26, lZ20, List.getD_cons_zero, List.getD_cons_succ]
  refine X_call0 ((culletlaw04_high_spec w10 sm (m.map em16) om (by omega)).mono ?_)
  rintro _ w11 ⟨rfl, rfl⟩
  have B11 := B10
  rw [tln_em16]
  simp only [List.getElem_cons_zero, List.getElem_cons_succ, and_true, true_and, decide_true, decide_false, Bool.not_true, Bool.not_false, lZ39, lZ30, lZ42, lZ18, lZ27, lZ38, lZ25, lZ1, lZ4, lZ6, lZ0, lZ2, lZ3, lZ55, lZ44, lZ29, I.at, atL, atO, atP, lZ15, lZ14, lZ98, lZ97, evp, evs, lZ9, ↓reduceIte, Nat.reduceEqDiff, reduceCtorEq, Value.bool.injEq, Bool.false_eq_true, Bool.true_eq_false, lZ11, lZ7, lZ71, lZ43, lZ82, lZ90, lZ70, lZ86, lZ96, lZ93, lZ16, lZ83, lZ60, lZ57, lZ45, lZ67, lZ61, lZ69, lZ81, lZ49, lZ51, lZ56, lZ89, lZ59, lZ37, lZ72, lZ53, lZ34, lZ75, lZ73, lZ79, lZ41, bff, btf, Option.isNone_some, Option.isNone_none, lZ10, lZ19, lZ5, retV, lZ40, lZ31, lZ22, lZ26, lZ20, List.getD_cons_zero, List.getD_cons_succ]
  refine X_call0 ((culletlaw04_high_spec w11 P2 (Q2.map em16) hP2 (by omega)).mono ?_)
  rintro _ w12 ⟨rfl, rfl⟩
  have B12 := B11
  rw [tln_em16]
  have tm2 := len_tr tm
  simp only [List.getElem_cons_zero, List.getElem_cons_succ, and_true, true_and, decide_true, decide_false, Bool.not_true, Bool.not_false, lZ39, lZ30, lZ42, lZ18, lZ27, lZ38, lZ25, lZ1, lZ4, lZ6, lZ0, lZ2, lZ3, lZ55, lZ44, lZ29, I.at, atL, atO, atP, lZ15, lZ14, lZ98, lZ97, evp, evs, lZ9, ↓reduceIte, Nat.reduceEqDiff, reduceCtorEq, Value.bool.injEq, Bool.false_eq_true, Bool.true_eq_false, lZ11, lZ7, lZ71, lZ43, lZ82, lZ90, lZ70, lZ86, lZ96, lZ93, lZ16, lZ83, lZ60, lZ57, lZ45, lZ67, lZ61, lZ69, lZ81, lZ49, lZ51, lZ56, lZ89, lZ59, lZ37, lZ72, lZ53, lZ34, lZ75, lZ73, lZ79, lZ41, bff, btf, Option.isNone_some, Option.isNone_none, lZ10, lZ19, lZ5, retV, lZ40, lZ31, lZ22, lZ26, lZ20, List.getD_cons_zero, List.getD_cons_succ, show decide ((tln Q2 : Int) - 1 ≤ (tln m : Int) - 1) = false from decide_eq_false (by omega), oq.Xlen, lq, show decide ((1024 : Int) < (q.length : Int)) = false from decide_eq_false (by omega), hr.Xldn (n := 2) rfl, addr_add0, Nat.zero_add, Nat.add_zero, hro.Xld (show 1 < _ by simp)]
  refine X_call0 ((culletlaw04_Rings_mul_w_spec w12 rb rw sq P2 _ _ hb hw oq hP2 (by omega) (by omega)).mono ?_)
  rw [lo16_map_em16, lo16_map_em16]
  rintro _ w13 ⟨hB, ⟨-, -, sp, p, rfl, op, tp, hcp, hlp⟩ | ⟨hn, -⟩⟩
  rotate_left
  · exact absurd ⟨by omega, by omega⟩ hn
  have op := op.sl
  have hro := hro.up hB
  have hb := hb.up hB
  have hw := hw.up hB
  have hr := hr.up hB
  have hP := hP.up hB
  have hP2 := hP2.up hB
  have oq := oq.up hB
  have om := om.up hB
  have B13 : RowKit.Below w.heap.size w w13 := B12.trans (hB.mono B12.size)
  clear hB B12
  have lp : (p.map em16).length = p.length := List.length_map _
  simp only [List.getElem_cons_zero, List.getElem_cons_succ, and_true, true_and, decide_true, decide_false, Bool.not_true, Bool.not_false, lZ39, lZ30, lZ42, lZ18, lZ27, lZ38, lZ25, lZ1, lZ4, lZ6, lZ0, lZ2, lZ3, lZ55, lZ44, lZ29, I.at, atL, atO, atP, lZ15, lZ14, lZ98, lZ97, evp, evs, lZ9, ↓reduceIte, Nat.reduceEqDiff, reduceCtorEq, Value.bool.injEq, Bool.false_eq_true, Bool.true_eq_false, lZ11, lZ7, lZ71, lZ43, lZ82, lZ90, lZ70, lZ86, lZ96, lZ93, lZ16, lZ83, lZ60, lZ57, lZ45, lZ67, lZ61, lZ69, lZ81, lZ49, lZ51, lZ56, lZ89, lZ59, lZ37, lZ72, lZ53, lZ34, lZ75, lZ73, lZ79, lZ41, bff, btf, Option.isNone_some, Option.isNone_none, lZ10, lZ19, lZ5, retV, lZ40, lZ31, lZ22, lZ26, lZ20, List.getD_cons_zero, List.getD_cons_succ]
  refine WP_dops ?_
  have y0 := hr.drew.seesN (n := 2) rfl Try.prog
  have y1 : Fw.sees Try.prog (.ld (.c (.pointer (some ⟨bo, 1, none⟩)))) w13.drew (.bool true) = True := hro.drew.sees (o := 1) (by simp) Try.prog
  simp only [lZ35, lZ28, lZ17, lZ24, lZ21, lZ54, lZ8, lZ23, lZ12, lZ84, List.mem_cons, List.not_mem_nil, or_self, List.getElem_cons_zero, List.getElem_cons_succ, or_false, false_or, false_implies, implies_true, forall_const, lZ95, lZ32, lZ94, lZ62, lZ88, lZ91, lZ99, lZ80, lZ13, lZ52, lZ78, lZ46, lZ77, lZ48, lZ92, lZ66, lZ58, lZ85, lZ76, lZ74, lZ64, lZ65, lZ36, lZ63, lZ68, lZ33, lZ50, lZ47, lZ87, List.getElem_cons_zero, List.getElem_cons_succ, and_true, true_and, decide_true, decide_false, Bool.not_true, Bool.not_false, lZ39, lZ30, lZ42, lZ18, lZ27, lZ38, lZ25, lZ1, lZ4, lZ6, lZ0, lZ2, lZ3, lZ55, lZ44, lZ29, I.at, atL, atO, atP, lZ15, lZ14, lZ98, lZ97, evp, evs, lZ9, ↓reduceIte, Nat.reduceEqDiff, reduceCtorEq, Value.bool.injEq, Bool.false_eq_true, Bool.true_eq_false, lZ11, lZ7, lZ71, lZ43, lZ82, lZ90, lZ70, lZ86, lZ96, lZ93, lZ16, lZ83, lZ60, lZ57, lZ45, lZ67, lZ61, lZ69, lZ81, lZ49, lZ51, lZ56, lZ89, lZ59, lZ37, lZ72, lZ53, lZ34, lZ75, lZ73, lZ79, lZ41, bff, btf, Option.isNone_some, Option.isNone_none, lZ10, lZ19, lZ5, retV, lZ40, lZ31, lZ22, lZ26, lZ20, List.getD_cons_zero, List.getD_cons_succ, addr_add0, Nat.zero_add, Nat.add_zero, show decide ((0 : Int) = 0) = true from rfl, hr.drew.Eldn (n := 2) rfl, hro.drew.Eld (show 1 < _ by simp)]
  refine E_call0 ((culletlaw04_Rings_add_w_spec w13.drew rb rw sp sm _ _ hb.drew hw.drew op.drew om.drew (by omega) (by omega)).mono ?_)
  rw [lo16_map_em16, lo16_map_em16]
  rintro sa w14 ⟨hB, a, oa, ta, hca, hla⟩
  have oa := oa.sl
  have hB := (bel_drew w13).trans hB
  have hro := hro.up hB
  have hb := hb.up hB
  have hw := hw.up hB
  have hr := hr.up hB
  have hP := hP.up hB
  have hP2 := hP2.up hB
  have oq := oq.up hB
  have om := om.up hB
  have op := op.up hB
  have B14 : RowKit.Below w.heap.size w w14 := B13.trans (hB.mono B13.size)
  clear hB B13
  simp only [lZ35, lZ28, lZ17, lZ24, lZ21, lZ54, lZ8, lZ23, lZ12, lZ84, List.mem_cons, List.not_mem_nil, or_self, List.getElem_cons_zero, List.getElem_cons_succ, or_false, false_or, false_implies, implies_true, forall_const, lZ95, lZ32, lZ94, lZ62, lZ88, lZ91, lZ99, lZ80, lZ13, lZ52, lZ78, lZ46, lZ77, lZ48, lZ92, lZ66, lZ58, lZ85, lZ76, lZ74, lZ64, lZ65, lZ36, lZ63, lZ68, lZ33, lZ50, lZ47, lZ87, List.getElem_cons_zero, List.getElem_cons_succ, and_true, true_and, decide_true, decide_false, Bool.not_true, Bool.not_false, lZ39, lZ30, lZ42, lZ18, lZ27, lZ38, lZ25, lZ1, lZ4, lZ6, lZ0, lZ2, lZ3, lZ55, lZ44, lZ29, I.at, atL, atO, atP, lZ15, lZ14, lZ98, lZ97, evp, evs, lZ9, ↓reduceIte, Nat.reduceEqDiff, reduceCtorEq, Value.bool.injEq, Bool.false_eq_true, Bool.true_eq_false, lZ11, lZ7, lZ71, lZ43, lZ82, lZ90, lZ70, lZ86, lZ96, lZ93, lZ16, lZ83, lZ60, lZ57, lZ45, lZ67, lZ61, lZ69, lZ81, lZ49, lZ51, lZ56, lZ89, lZ59, lZ37, lZ72, lZ53, lZ34, lZ75, lZ73, lZ79, lZ41, bff, btf, Option.isNone_some, Option.isNone_none, lZ10, lZ19, lZ5, retV, lZ40, lZ31, lZ22, lZ26, lZ20, List.getD_cons_zero, List.getD_cons_succ, addr_add0, Nat.zero_add, Nat.add_zero, y0, y1, hr.Eldn (n := 2) rfl, hro.Eld (show 1 < _ by simp)]
  refine E_call0 ((culletlaw04_Rings_trim_w_spec w14 rb rw P _ hb hw hP (by omega)).mono ?_)
  rw [lo16_map_em16]
  rintro st w15 ⟨hB, f, of, tf, hcf, hlf⟩
  have of := of.sl
  have oa := oa.up hB
  have B15 : RowKit.Below w.heap.size w w15 := B14.trans (hB.mono B14.size)
  clear hB B14
  simp only [lZ35, lZ28, lZ17, lZ24, lZ21, lZ54, lZ8, lZ23, lZ12, lZ84, List.mem_cons, List.not_mem_nil, or_self, List.getElem_cons_zero, List.getElem_cons_succ, or_false, false_or, false_implies, implies_true, forall_const, lZ95, lZ32, lZ94, lZ62, lZ88, lZ91, lZ99, lZ80, lZ13, lZ52, lZ78, lZ46, lZ77, lZ48, lZ92, lZ66, lZ58, lZ85, lZ76, lZ74, lZ64, lZ65, lZ36, lZ63, lZ68, lZ33, lZ50, lZ47, lZ87, List.getElem_cons_zero, List.getElem_cons_succ, and_true, true_and, decide_true, decide_false, Bool.not_true, Bool.not_false, lZ39, lZ30, lZ42, lZ18, lZ27, lZ38, lZ25, lZ1, lZ4, lZ6, lZ0, lZ2, lZ3, lZ55, lZ44, lZ29, I.at, atL, atO, atP, lZ15, lZ14, lZ98, lZ97, evp, evs, lZ9, ↓reduceIte, Nat.reduceEqDiff, reduceCtorEq, Value.bool.injEq, Bool.false_eq_true, Bool.true_eq_false, lZ11, lZ7, lZ71, lZ43, lZ82, lZ90, lZ70, lZ86, lZ96, lZ93, lZ16, lZ83, lZ60, lZ57, lZ45, lZ67, lZ61, lZ69, lZ81, lZ49, lZ51, lZ56, lZ89, lZ59, lZ37, lZ72, lZ53, lZ34, lZ75, lZ73, lZ79, lZ41, bff, btf, Option.isNone_some, Option.isNone_none, lZ10, lZ19, lZ5, retV, lZ40, lZ31, lZ22, lZ26, lZ20, List.getD_cons_zero, List.getD_cons_succ]
  refine E_call0 ((culletlaw04_same_spec w15 sa st _ _ oa of (by simp only [List.length_map]; omega) (by simp only [List.length_map]; omega)).mono ?_)
  rintro _ w16 ⟨rfl, hk⟩
  have hB := hk.1
  clear hk
  have B16 : RowKit.Below w.heap.size w w16 := B15.trans (hB.mono B15.size)
  clear hB B15
  have : a = f := tr_inj ta tf (by rw [hca, hcf, hcp, hco])
  simp only [lZ35, lZ28, lZ17, lZ24, lZ21, lZ54, lZ8, lZ23, lZ12, lZ84, List.mem_cons, List.not_mem_nil, or_self, List.getElem_cons_zero, List.getElem_cons_succ, or_false, false_or, false_implies, implies_true, forall_const, lZ95, lZ32, lZ94, lZ62, lZ88, lZ91, lZ99, lZ80, lZ13, lZ52, lZ78, lZ46, lZ77, lZ48, lZ92, lZ66, lZ58, lZ85, lZ76, lZ74, lZ64, lZ65, lZ36, lZ63, lZ68, lZ33, lZ50, lZ47, lZ87, List.getElem_cons_zero, List.getElem_cons_succ, and_true, true_and, decide_true, decide_false, Bool.not_true, Bool.not_false, lZ39, lZ30, lZ42, lZ18, lZ27, lZ38, lZ25, lZ1, lZ4, lZ6, lZ0, lZ2, lZ3, lZ55, lZ44, lZ29, I.at, atL, atO, atP, lZ15, lZ14, lZ98, lZ97, evp, evs, lZ9, ↓reduceIte, Nat.reduceEqDiff, reduceCtorEq, Value.bool.injEq, Bool.false_eq_true, Bool.true_eq_false, lZ11, lZ7, lZ71, lZ43, lZ82, lZ90, lZ70, lZ86, lZ96, lZ93, lZ16, lZ83, lZ60, lZ57, lZ45, lZ67, lZ61, lZ69, lZ81, lZ49, lZ51, lZ56, lZ89, lZ59, lZ37, lZ72, lZ53, lZ34, lZ75, lZ73, lZ79, lZ41, bff, btf, Option.isNone_some, Option.isNone_none, lZ10, lZ19, lZ5, retV, lZ40, lZ31, lZ22, lZ26, lZ20, List.getD_cons_zero, List.getD_cons_succ, this]
  exact B16
end Go.Proofs.Ytcdagkcchfibjaa.Fw

namespace Go.Proofs.Ytcdagkcchfibjaa.Fw
open Go Go.Fw
theorem culletlaw04_PolysDivides_b_spec (w : World) (k n : Int) (F G : Value) (LF LG : List (El 16)) (X : El 16) (hF : Sl w F LF) (hG : Sl w G LG) (hlF : LF.length ≤ 70368744175616) (hlG : LG.length ≤ 70368744175616) :
    CallV Try.prog 8 [.agg #[.int .i64 k, .bool false, F, G, .int .u16 (X.v.toNat : Int), .int .i64 n]] w fun v w' => v = .bool true ∧ RowKit.Below w.heap.size w w' := by
  refine run_culletlaw04_PolysDivides (by simp) ?_
  simp only [c_culletlaw04_PolysDivides, List.getElem_cons_zero, List.getElem_cons_succ, and_true, true_and, decide_true, decide_false, Bool.not_true, Bool.not_false, lZ39, lZ30, lZ42, lZ18, lZ27, lZ38, lZ25, lZ1, lZ4, lZ6, lZ0, lZ2, lZ3, lZ55, lZ44, lZ29, I.at, atL, atO, atP, lZ15, lZ14, lZ98, lZ97, evp, evs, lZ9, ↓reduceIte, Nat.reduceEqDiff, reduceCtorEq, Value.bool.injEq, Bool.false_eq_true, Bool.true_eq_false, lZ11, lZ7, lZ71, lZ43, lZ82, lZ90, lZ70, lZ86, lZ96, lZ93, lZ16, lZ83, lZ60, lZ57, lZ45, lZ67, lZ61, lZ69, lZ81, lZ49, lZ51, lZ56, lZ89, lZ59, lZ37, lZ72, lZ53, lZ34, lZ75, lZ73, lZ79, lZ41, bff, btf, Option.isNone_some, Option.isNone_none, lZ10, lZ19, lZ5, retV, lZ40, lZ31, lZ22, lZ26, lZ20, List.getD_cons_zero, List.getD_cons_succ]
  refine X_box fun bo w1 hro hbo hB => ?_
  have hro : Row w1 bo [.int .i64 k, .bool false, F, G, .int .u16 (X.v.toNat : Int), .int .i64 n] := hro
  have hF := hF.up hB
  have hG := hG.up hB
  have B1 : RowKit.Below w.heap.size w w1 := hB
  clear hB
  simp only [List.getElem_cons_zero, List.getElem_cons_succ, and_true, true_and, decide_true, decide_false, Bool.not_true, Bool.not_false, lZ39, lZ30, lZ42, lZ18, lZ27, lZ38, lZ25, lZ1, lZ4, lZ6, lZ0, lZ2, lZ3, lZ55, lZ44, lZ29, I.at, atL, atO, atP, lZ15, lZ14, lZ98, lZ97, evp, evs, lZ9, ↓reduceIte, Nat.reduceEqDiff, reduceCtorEq, Value.bool.injEq, Bool.false_eq_true, Bool.true_eq_false, lZ11, lZ7, lZ71, lZ43, lZ82, lZ90, lZ70, lZ86, lZ96, lZ93, lZ16, lZ83, lZ60, lZ57, lZ45, lZ67, lZ61, lZ69, lZ81, lZ49, lZ51, lZ56, lZ89, lZ59, lZ37, lZ72, lZ53, lZ34, lZ75, lZ73, lZ79, lZ41, bff, btf, Option.isNone_some, Option.isNone_none, lZ10, lZ19, lZ5, retV, lZ40, lZ31, lZ22, lZ26, lZ20, List.getD_cons_zero, List.getD_cons_succ]
  refine X_call0 ((culletlaw04_both_spec w1).mono ?_)
  rintro _ w2 ⟨rb, rw, rfl, hb, hw, hB⟩
  have hF := hF.up hB
  have hG := hG.up hB
  have hro := hro.up hB
  have B2 : RowKit.Below w.heap.size w w2 := B1.trans (hB.mono B1.size)
  clear hB B1
  simp only [List.getElem_cons_zero, List.getElem_cons_succ, and_true, true_and, decide_true, decide_false, Bool.not_true, Bool.not_false, lZ39, lZ30, lZ42, lZ18, lZ27, lZ38, lZ25, lZ1, lZ4, lZ6, lZ0, lZ2, lZ3, lZ55, lZ44, lZ29, I.at, atL, atO, atP, lZ15, lZ14, lZ98, lZ97, evp, evs, lZ9, ↓reduceIte, Nat.reduceEqDiff, reduceCtorEq, Value.bool.injEq, Bool.false_eq_true, Bool.true_eq_false, lZ11, lZ7, lZ71, lZ43, lZ82, lZ90, lZ70, lZ86, lZ96, lZ93, lZ16, lZ83, lZ60, lZ57, lZ45, lZ67, lZ61, lZ69, lZ81, lZ49, lZ51, lZ56, lZ89, lZ59, lZ37, lZ72, lZ53, lZ34, lZ75, lZ73, lZ79, lZ41, bff, btf, Option.isNone_some, Option.isNone_none, lZ10, lZ19, lZ5, retV, lZ40, lZ31, lZ22, lZ26, lZ20, List.getD_cons_zero, List.getD_cons_succ]
  refine X_alloc fun b3 w0 hr3 hb3 hB => ?_
  have s8 : scal rb = true := by obtain ⟨_, _, _, rfl, _⟩ := hb; rfl
  have s16 : scal rw = true := by obtain ⟨_, _, _, rfl, _⟩ := hw; rfl
  simp only [List.getElem_cons_zero, List.getElem_cons_succ, and_true, true_and, decide_true, decide_false, Bool.not_true, Bool.not_false, lZ39, lZ30, lZ42, lZ18, lZ27, lZ38, lZ25, lZ1, lZ4, lZ6, lZ0, lZ2, lZ3, lZ55, lZ44, lZ29, I.at, atL, atO, atP, lZ15, lZ14, lZ98, lZ97, evp, evs, lZ9, ↓reduceIte, Nat.reduceEqDiff, reduceCtorEq, Value.bool.injEq, Bool.false_eq_true, Bool.true_eq_false, lZ11, lZ7, lZ71, lZ43, lZ82, lZ90, lZ70, lZ86, lZ96, lZ93, lZ16, lZ83, lZ60, lZ57, lZ45, lZ67, lZ61, lZ69, lZ81, lZ49, lZ51, lZ56, lZ89, lZ59, lZ37, lZ72, lZ53, lZ34, lZ75, lZ73, lZ79, lZ41, bff, btf, Option.isNone_some, Option.isNone_none, lZ10, lZ19, lZ5, retV, lZ40, lZ31, lZ22, lZ26, lZ20, List.getD_cons_zero, List.getD_cons_succ]
  refine Row.Xstn (vs := [rb, rw]) hr3 rfl (by simp [s8, s16]) (by simp) fun w3 hr hg => ?_
  have hB := Below.row hB hb3 hg
  clear hg hr3 hb3
  have hF := hF.up hB
  have hG := hG.up hB
  have hro := hro.up hB
  have hb := hb.up hB
  have hw := hw.up hB
  have B3 : RowKit.Below w.heap.size w w3 := B2.trans (hB.mono B2.size)
  clear hB B2
  simp only [List.getElem_cons_zero, List.getElem_cons_succ, and_true, true_and, decide_true, decide_false, Bool.not_true, Bool.not_false, lZ39, lZ30, lZ42, lZ18, lZ27, lZ38, lZ25, lZ1, lZ4, lZ6, lZ0, lZ2, lZ3, lZ55, lZ44, lZ29, I.at, atL, atO, atP, lZ15, lZ14, lZ98, lZ97, evp, evs, lZ9, ↓reduceIte, Nat.reduceEqDiff, reduceCtorEq, Value.bool.injEq, Bool.false_eq_true, Bool.true_eq_false, lZ11, lZ7, lZ71, lZ43, lZ82, lZ90, lZ70, lZ86, lZ96, lZ93, lZ16, lZ83, lZ60, lZ57, lZ45, lZ67, lZ61, lZ69, lZ81, lZ49, lZ51, lZ56, lZ89, lZ59, lZ37, lZ72, lZ53, lZ34, lZ75, lZ73, lZ79, lZ41, bff, btf, Option.isNone_some, Option.isNone_none, lZ10, lZ19, lZ5, retV, lZ40, lZ31, lZ22, lZ26, lZ20, List.getD_cons_zero, List.getD_cons_succ, hr.Xldn (n := 2) rfl]
  refine X_call0 ((culletlaw04_awake_spec w3 rb rw hb hw).mono ?_)
  rintro _ w4 ⟨rfl, hB⟩
  have hF := hF.up hB
  have hG := hG.up hB
  have hro := hro.up hB
  have hb := hb.up hB
  have hw := hw.up hB
  have hr := hr.up hB
  have B4 : RowKit.Below w.heap.size w w4 := B3.trans (hB.mono B3.size)
  clear hB B3
  simp only [List.getElem_cons_zero, List.getElem_cons_succ, and_true, true_and, decide_true, decide_false, Bool.not_true, Bool.not_false, lZ39, lZ30, lZ42, lZ18, lZ27, lZ38, lZ25, lZ1, lZ4, lZ6, lZ0, lZ2, lZ3, lZ55, lZ44, lZ29, I.at, atL, atO, atP, lZ15, lZ14, lZ98, lZ97, evp, evs, lZ9, ↓reduceIte, Nat.reduceEqDiff, reduceCtorEq, Value.bool.injEq, Bool.false_eq_true, Bool.true_eq_false, lZ11, lZ7, lZ71, lZ43, lZ82, lZ90, lZ70, lZ86, lZ96, lZ93, lZ16, lZ83, lZ60, lZ57, lZ45, lZ67, lZ61, lZ69, lZ81, lZ49, lZ51, lZ56, lZ89, lZ59, lZ37, lZ72, lZ53, lZ34, lZ75, lZ73, lZ79, lZ41, bff, btf, Option.isNone_some, Option.isNone_none, lZ10, lZ19, lZ5, retV, lZ40, lZ31, lZ22, lZ26, lZ20, List.getD_cons_zero, List.getD_cons_succ]
  simp only [List.getElem_cons_zero, List.getElem_cons_succ, and_true, true_and, decide_true, decide_false, Bool.not_true, Bool.not_false, lZ39, lZ30, lZ42, lZ18, lZ27, lZ38, lZ25, lZ1, lZ4, lZ6, lZ0, lZ2, lZ3, lZ55, lZ44, lZ29, I.at, atL, atO, atP, lZ15, lZ14, lZ98, lZ97, evp, evs, lZ9, ↓reduceIte, Nat.reduceEqDiff, reduceCtorEq, Value.bool.injEq, Bool.false_eq_true, Bool.true_eq_false, lZ11, lZ7, lZ71, lZ43, lZ82, lZ90, lZ70, lZ86, lZ96, lZ93, lZ16, lZ83, lZ60, lZ57, lZ45, lZ67, lZ61, lZ69, lZ81, lZ49, lZ51, lZ56, lZ89, lZ59, lZ37, lZ72, lZ53, lZ34, lZ75, lZ73, lZ79, lZ41, bff, btf, Option.isNone_some, Option.isNone_none, lZ10, lZ19, lZ5, retV, lZ40, lZ31, lZ22, lZ26, lZ20, List.getD_cons_zero, List.getD_cons_succ, addr_add0, Nat.zero_add, Nat.add_zero, hro.Xld (show 1 < _ by simp), hro.Xld (show 2 < _ by simp)]
  refine X_call0 ((culletlaw04_cut_b_spec w4 F LF hF hlF).mono ?_)
  rintro P w5 ⟨hP, hB⟩
  have hP := hP.sl
  have hF := hF.up hB
  have hG := hG.up hB
  have hro := hro.up hB
  have hb := hb.up hB
  have hw := hw.up hB
  have hr := hr.up hB
  have B5 : RowKit.Below w.heap.size w w5 := B4.trans (hB.mono B4.size)
  clear hB B4
  generalize hqQ : LF.map lo8 = Q at hP
  have lP : (Q.map em8).length = Q.length := List.length_map _
  have bQ : Q.length ≤ 70368744175616 := by rw [← hqQ, List.length_map]; exact hlF
  simp only [List.getElem_cons_zero, List.getElem_cons_succ, and_true, true_and, decide_true, decide_false, Bool.not_true, Bool.not_false, lZ39, lZ30, lZ42, lZ18, lZ27, lZ38, lZ25, lZ1, lZ4, lZ6, lZ0, lZ2, lZ3, lZ55, lZ44, lZ29, I.at, atL, atO, atP, lZ15, lZ14, lZ98, lZ97, evp, evs, lZ9, ↓reduceIte, Nat.reduceEqDiff, reduceCtorEq, Value.bool.injEq, Bool.false_eq_true, Bool.true_eq_false, lZ11, lZ7, lZ71, lZ43, lZ82, lZ90, lZ70, lZ86, lZ96, lZ93, lZ16, lZ83, lZ60, lZ57, lZ45, lZ67, lZ61, lZ69, lZ81, lZ49, lZ51, lZ56, lZ89, lZ59, lZ37, lZ72, lZ53, lZ34, lZ75, lZ73, lZ79, lZ41, bff, btf, Option.isNone_some, Option.isNone_none, lZ10, lZ19, lZ5, retV, lZ40, lZ31, lZ22, lZ26, lZ20, List.getD_cons_zero, List.getD_cons_succ, addr_add0, Nat.zero_add, Nat.add_zero, hro.Xld (show 1 < _ by simp), hro.Xld (show 3 < _ by simp)]
  refine X_call0 ((culletlaw04_cut_b_spec w5 G LG hG hlG).mono ?_)
  rintro P2 w6 ⟨hP2, hB⟩
  have hP2 := hP2.sl
  have hG := hG.up hB
  have hro := hro.up hB
  have hb := hb.up hB
  have hw := hw.up hB
  have hr := hr.up hB
  have hP := hP.up hB
  have B6 : RowKit.Below w.heap.size w w6 := B5.trans (hB.mono B5.size)
  clear hB B5
  generalize hqQ2 : LG.map lo8 = Q2 at hP2
  have lP2 : (Q2.map em8).length = Q2.length := List.length_map _
  have bQ2 : Q2.length ≤ 70368744175616 := by rw [← hqQ2, List.length_map]; exact hlG
  simp only [List.getElem_cons_zero, List.getElem_cons_succ, and_true, true_and, decide_true, decide_false, Bool.not_true, Bool.not_false, lZ39, lZ30, lZ42, lZ18, lZ27, lZ38, lZ25, lZ1, lZ4, lZ6, lZ0, lZ2, lZ3, lZ55, lZ44, lZ29, I.at, atL, atO, atP, lZ15, lZ14, lZ98, lZ97, evp, evs, lZ9, ↓reduceIte, Nat.reduceEqDiff, reduceCtorEq, Value.bool.injEq, Bool.false_eq_true, Bool.true_eq_false, lZ11, lZ7, lZ71, lZ43, lZ82, lZ90, lZ70, lZ86, lZ96, lZ93, lZ16, lZ83, lZ60, lZ57, lZ45, lZ67, lZ61, lZ69, lZ81, lZ49, lZ51, lZ56, lZ89, lZ59, lZ37, lZ72, lZ53, lZ34, lZ75, lZ73, lZ79, lZ41, bff, btf, Option.isNone_some, Option.isNone_none, lZ10, lZ19, lZ5, retV, lZ40, lZ31, lZ22, lZ26, lZ20, List.getD_cons_zero, List.getD_cons_succ, hP.Xlen, lP]
  by_cases hbig : 1024 < Q.length
  · simp only [List.getElem_cons_zero, List.getElem_cons_succ, and_true, true_and, decide_true, decide_false, Bool.not_true, Bool.not_false, lZ39, lZ30, lZ42, lZ18, lZ27, lZ38, lZ25, lZ1, lZ4, lZ6, lZ0, lZ2, lZ3, lZ55, lZ44, lZ29, I.at, atL, atO, atP, lZ15, lZ14, lZ98, lZ97, evp, evs, lZ9, ↓reduceIte, Nat.reduceEqDiff, reduceCtorEq, Value.bool.injEq, Bool.false_eq_true, Bool.true_eq_false, lZ11, lZ7, lZ71, lZ43, lZ82, lZ90, lZ70, lZ86, lZ96, lZ93, lZ16, lZ83, lZ60, lZ57, lZ45, lZ67, lZ61, lZ69, lZ81, lZ49, lZ51, lZ56, lZ89, lZ59, lZ37, lZ72, lZ53, lZ34, lZ75, lZ73, lZ79, lZ41, bff, btf, Option.isNone_some, Option.isNone_none, lZ10, lZ19, lZ5, retV, lZ40, lZ31, lZ22, lZ26, lZ20, List.getD_cons_zero, List.getD_cons_succ, show decide ((1024 : Int) < (Q.length : Int)) = true from decide_eq_true (by omega)]
    exact B6
  simp only [List.getElem_cons_zero, List.getElem_cons_succ, and_true, true_and, decide_true, decide_false, Bool.not_true, Bool.not_false, lZ39, lZ30, lZ42, lZ18, lZ27, lZ38, lZ25, lZ1, lZ4, lZ6, lZ0, lZ2, lZ3, lZ55, lZ44, lZ29, I.at, atL, atO, atP, lZ15, lZ14, lZ98, lZ97, evp, evs, lZ9, ↓reduceIte, Nat.reduceEqDiff, reduceCtorEq, Value.bool.injEq, Bool.false_eq_true, Bool.true_eq_false, lZ11, lZ7, lZ71, lZ43, lZ82, lZ90, lZ70, lZ86, lZ96, lZ93, lZ16, lZ83, lZ60, lZ57, lZ45, lZ67, lZ61, lZ69, lZ81, lZ49, lZ51, lZ56, lZ89, lZ59, lZ37, lZ72, lZ53, lZ34, lZ75, lZ73, lZ79, lZ41, bff, btf, Option.isNone_some, Option.isNone_none, lZ10, lZ19, lZ5, retV, lZ40, lZ31, lZ22, lZ26, lZ20, List.getD_cons_zero, List.getD_cons_succ, hP2.Xlen, lP2, show decide ((1024 : Int) < (Q.length : Int)) = false from decide_eq_false (by omega)]
  by_cases hbig2 : 1024 < Q2.length
  · simp only [List.getElem_cons_zero, List.getElem_cons_succ, and_true, true_and, decide_true, decide_false, Bool.not_true, Bool.not_false, lZ39, lZ30, lZ42, lZ18, lZ27, lZ38, lZ25, lZ1, lZ4, lZ6, lZ0, lZ2, lZ3, lZ55, lZ44, lZ29, I.at, atL, atO, atP, lZ15, lZ14, lZ98, lZ97, evp, evs, lZ9, ↓reduceIte, Nat.reduceEqDiff, reduceCtorEq, Value.bool.injEq, Bool.false_eq_true, Bool.true_eq_false, lZ11, lZ7, lZ71, lZ43, lZ82, lZ90, lZ70, lZ86, lZ96, lZ93, lZ16, lZ83, lZ60, lZ57, lZ45, lZ67, lZ61, lZ69, lZ81, lZ49, lZ51, lZ56, lZ89, lZ59, lZ37, lZ72, lZ53, lZ34, lZ75, lZ73, lZ79, lZ41, bff, btf, Option.isNone_some, Option.isNone_none, lZ10, lZ19, lZ5, retV, lZ40, lZ31, lZ22, lZ26, lZ20, List.getD_cons_zero, List.getD_cons_succ, show decide ((1024 : Int) < (Q2.length : Int)) = true from decide_eq_true (by omega)]
    exact B6
  simp only [List.getElem_cons_zero, List.getElem_cons_succ, and_true, true_and, decide_true, decide_false, Bool.not_true, Bool.not_false, lZ39, lZ30, lZ42, lZ18, lZ27, lZ38, lZ25, lZ1, lZ4, lZ6, lZ0, lZ2, lZ3, lZ55, lZ44, lZ29, I.at, atL, atO, atP, lZ15, lZ14, lZ98, lZ97, evp, evs, lZ9, ↓reduceIte, Nat.reduceEqDiff, reduceCtorEq, Value.bool.injEq, Bool.false_eq_true, Bool.true_eq_false, lZ11, lZ7, lZ71, lZ43, lZ82, lZ90, lZ70, lZ86, lZ96, lZ93, lZ16, lZ83, lZ60, lZ57, lZ45, lZ67, lZ61, lZ69, lZ81, lZ49, lZ51, lZ56, lZ89, lZ59, lZ37, lZ72, lZ53, lZ34, lZ75, lZ73, lZ79, lZ41, bff, btf, Option.isNone_some, Option.isNone_none, lZ10, lZ19, lZ5, retV, lZ40, lZ31, lZ22, lZ26, lZ20, List.getD_cons_zero, List.getD_cons_succ, show decide ((1024 : Int) < (Q2.length : Int)) = false from decide_eq_false (by omega), hr.Xldn (n := 2) rfl, addr_add0, Nat.zero_add, Nat.add_zero, hro.Xld (show 1 < _ by simp)]
  have tQ := tln_le Q
  have tQ2 := tln_le Q2
  refine X_call0 ((culletlaw04_Rings_divMod_b_spec w6 rb rw P P2 (Q.map em8) (Q2.map em8) hb hw hP hP2 (by omega) (by omega)).mono ?_)
  rw [lo8_map_em8, lo8_map_em8]
  rintro _ w7 ⟨hB, ⟨-, -, hz, sq, sm, q, m, rfl, oq, om, tq, tm, hco, hml, hql⟩ | ⟨-, -, h0, sq, sm, rfl, oq, om⟩ | ⟨hn, -⟩⟩
  rotate_left
  · have hP2 := hP2.up hB
    have B7 := B6.trans (hB.mono B6.size)
    simp only [List.getElem_cons_zero, List.getElem_cons_succ, and_true, true_and, decide_true, decide_false, Bool.not_true, Bool.not_false, lZ39, lZ30, lZ42, lZ18, lZ27, lZ38, lZ25, lZ1, lZ4, lZ6, lZ0, lZ2, lZ3, lZ55, lZ44, lZ29, I.at, atL, atO, atP, lZ15, lZ14, lZ98, lZ97, evp, evs, lZ9, ↓reduceIte, Nat.reduceEqDiff, reduceCtorEq, Value.bool.injEq, Bool.false_eq_true, Bool.true_eq_false, lZ11, lZ7, lZ71, lZ43, lZ82, lZ90, lZ70, lZ86, lZ96, lZ93, lZ16, lZ83, lZ60, lZ57, lZ45, lZ67, lZ61, lZ69, lZ81, lZ49, lZ51, lZ56, lZ89, lZ59, lZ37, lZ72, lZ53, lZ34, lZ75, lZ73, lZ79, lZ41, bff, btf, Option.isNone_some, Option.isNone_none, lZ10, lZ19, lZ5, retV, lZ40, lZ31, lZ22, lZ26, lZ20, List.getD_cons_zero, List.getD_cons_succ]
    refine X_call0 ((culletlaw04_high_spec w7 P2 (Q2.map em8) hP2 (by omega)).mono ?_)
    rintro _ w' ⟨rfl, rfl⟩
    rw [tln_em8, h0]
    simp only [List.getElem_cons_zero, List.getElem_cons_succ, and_true, true_and, decide_true, decide_false, Bool.not_true, Bool.not_false, lZ39, lZ30, lZ42, lZ18, lZ27, lZ38, lZ25, lZ1, lZ4, lZ6, lZ0, lZ2, lZ3, lZ55, lZ44, lZ29, I.at, atL, atO, atP, lZ15, lZ14, lZ98, lZ97, evp, evs, lZ9, ↓reduceIte, Nat.reduceEqDiff, reduceCtorEq, Value.bool.injEq, Bool.false_eq_true, Bool.true_eq_false, lZ11, lZ7, lZ71, lZ43, lZ82, lZ90, lZ70, lZ86, lZ96, lZ93, lZ16, lZ83, lZ60, lZ57, lZ45, lZ67, lZ61, lZ69, lZ81, lZ49, lZ51, lZ56, lZ89, lZ59, lZ37, lZ72, lZ53, lZ34, lZ75, lZ73, lZ79, lZ41, bff, btf, Option.isNone_some, Option.isNone_none, lZ10, lZ19, lZ5, retV, lZ40, lZ31, lZ22, lZ26, lZ20, List.getD_cons_zero, List.getD_cons_succ, show decide (((0 : Nat) : Int) - 1 < 0) = true from rfl, show decide ((40 : Int) = 40) = true from rfl, oq.sl.Xlen, om.sl.Xlen, List.length_nil, show decide (((0 : Nat) : Int) = 0) = true from rfl]
    exact B7
  · exact absurd ⟨by omega, by omega⟩ hn
  have oq := oq.sl
  have om := om.sl
  have hro := hro.up hB
  have hb := hb.up hB
  have hw := hw.up hB
  have hr := hr.up hB
  have hP := hP.up hB
  have hP2 := hP2.up hB
  have B7 : RowKit.Below w.heap.size w w7 := B6.trans (hB.mono B6.size)
  clear hB B6
  have lq : (q.map em8).length = q.length := List.length_map _
  have lm : (m.map em8).length = m.length := List.length_map _
  simp only [List.getElem_cons_zero, List.getElem_cons_succ, and_true, true_and, decide_true, decide_false, Bool.not_true, Bool.not_false, lZ39, lZ30, lZ42, lZ18, lZ27, lZ38, lZ25, lZ1, lZ4, lZ6, lZ0, lZ2, lZ3, lZ55, lZ44, lZ29, I.at, atL, atO, atP, lZ15, lZ14, lZ98, lZ97, evp, evs, lZ9, ↓reduceIte, Nat.reduceEqDiff, reduceCtorEq, Value.bool.injEq, Bool.false_eq_true, Bool.true_eq_false, lZ11, lZ7, lZ71, lZ43, lZ82, lZ90, lZ70, lZ86, lZ96, lZ93, lZ16, lZ83, lZ60, lZ57, lZ45, lZ67, lZ61, lZ69, lZ81, lZ49, lZ51, lZ56, lZ89, lZ59, lZ37, lZ72, lZ53, lZ34, lZ75, lZ73, lZ79, lZ41, bff, btf, Option.isNone_some, Option.isNone_none, lZ10, lZ19, lZ5, retV, lZ40, lZ31, lZ22, lZ26, lZ20, List.getD_cons_zero, List.getD_cons_succ]
  refine X_call0 ((culletlaw04_high_spec w7 P2 (Q2.map em8) hP2 (by omega)).mono ?_)
  rintro _ w8 ⟨rfl, rfl⟩
  have B8 := B7
  rw [tln_em8]
  simp only [List.getElem_cons_zero, List.getElem_cons_succ, and_true, true_and, decide_true, decide_false, Bool.not_true, Bool.not_false, lZ39, lZ30, lZ42, lZ18, lZ27, lZ38, lZ25, lZ1, lZ4, lZ6, lZ0, lZ2, lZ3, lZ55, lZ44, lZ29, I.at, atL, atO, atP, lZ15, lZ14, lZ98, lZ97, evp, evs, lZ9, ↓reduceIte, Nat.reduceEqDiff, reduceCtorEq, Value.bool.injEq, Bool.false_eq_true, Bool.true_eq_false, lZ11, lZ7, lZ71, lZ43, lZ82, lZ90, lZ70, lZ86, lZ96, lZ93, lZ16, lZ83, lZ60, lZ57, lZ45, lZ67, lZ61, lZ69, lZ81, lZ49, lZ51, lZ56, lZ89, lZ59, lZ37, lZ72, lZ53, lZ34, lZ75, lZ73, lZ79, lZ41, bff, btf, Option.isNone_some, Option.isNone_none, lZ10, lZ19, lZ5, retV, lZ40, lZ31, lZ22, lZ26, lZ20, List.getD_cons_zero, List.getD_cons_succ, show decide ((tln Q2 : Int) - 1 < 0) = false from decide_eq_false (by omega), show decide ((0 : Int) = 0) = true from rfl]
  refine X_call0 ((culletlaw04_neat_spec w8 sq (q.map em8) oq (by omega)).mono ?_)
  rintro _ w9 ⟨rfl, rfl⟩
  have B9 := B8
  rw [show decide ((q.map em8).length = tln (q.map em8)) = true from decide_eq_true (by rw [tln_em8, lq]; exact len_tr tq)]
  simp only [List.getElem_cons_zero, List.getElem_cons_succ, and_true, true_and, decide_true, decide_false, Bool.not_true, Bool.not_false, lZ39, lZ30, lZ42, lZ18, lZ27, lZ38, lZ25, lZ1, lZ4, lZ6, lZ0, lZ2, lZ3, lZ55, lZ44, lZ29, I.at, atL, atO, atP, lZ15, lZ14, lZ98, lZ97, evp, evs, lZ9, ↓reduceIte, Nat.reduceEqDiff, reduceCtorEq, Value.bool.injEq, Bool.false_eq_true, Bool.true_eq_false, lZ11, lZ7, lZ71, lZ43, lZ82, lZ90, lZ70, lZ86, lZ96, lZ93, lZ16, lZ83, lZ60, lZ57, lZ45, lZ67, lZ61, lZ69, lZ81, lZ49, lZ51, lZ56, lZ89, lZ59, lZ37, lZ72, lZ53, lZ34, lZ75, lZ73, lZ79, lZ41, bff, btf, Option.isNone_some, Option.isNone_none, lZ10, lZ19, lZ5, retV, lZ40, lZ31, lZ22, lZ26, lZ20, List.getD_cons_zero, List.getD_cons_succ]
  refine X_call0 ((culletlaw04_neat_spec w9 sm (m.map em8) om (by omega)).mono ?_)
  rintro _ w10 ⟨rfl, rfl⟩
  have B10 := B9
  rw [show decide ((m.map em8).length = tln (m.map em8)) = true from decide_eq_true (by rw [tln_em8, lm]; exact len_tr tm)]
  simp only [List.getElem_cons_zero, List.getElem_cons_succ, and_true, true_and, decide_true, decide_false, Bool.not_true, Bool.not_false, lZ39, lZ30, lZ42, lZ18, lZ27, lZ38, lZ25, lZ1, lZ4, lZ6, lZ0, lZ2, lZ3, lZ55, lZ44, lZ29, I.at, atL, atO, atP, lZ15, lZ14, lZ98, lZ97, evp, evs, lZ9, ↓reduceIte, Nat.reduceEqDiff, reduceCtorEq, Value.bool.injEq, Bool.false_eq_true, Bool.true_eq_false, lZ11, lZ7, lZ71, lZ43, lZ82, lZ90, lZ70, lZ86, lZ96, lZ93, lZ16, lZ83, lZ60, lZ57, lZ45, lZ67, lZ61, lZ69, lZ81, lZ49, lZ51, lZ56, lZ89, lZ59, lZ37, lZ72, lZ53, lZ34, lZ75, lZ73, lZ79, lZ41, bff, btf, Option.isNone_some, Option.isNone_none, lZ10, lZ19, lZ5, retV, lZ40, lZ31, lZ22, lZ26, lZ20, List.getD_cons_zero, List.getD_cons_succ]
  refine X_call0 ((culletlaw04_high_spec w10 sm (m.map em8) om (by omega)).mono ?_)
  rintro _ w11 ⟨rfl, rfl⟩
  have B11 := B10
  rw [tln_em8]
  simp only [List.getElem_cons_zero, List.getElem_cons_succ, and_true, true_and, decide_true, decide_false, Bool.not_true, Bool.not_false, lZ39, lZ30, lZ42, lZ18, lZ27, lZ38, lZ25, lZ1, lZ4, lZ6, lZ0, lZ2, lZ3, lZ55, lZ44, lZ29, I.at, atL, atO, atP, lZ15, lZ14, lZ98, lZ97, evp, evs, lZ9, ↓reduceIte, Nat.reduceEqDiff, reduceCtorEq, Value.bool.injEq, Bool.false_eq_true, Bool.true_eq_false, lZ11, lZ7, lZ71, lZ43, lZ82, lZ90, lZ70, lZ86, lZ96, lZ93, lZ16, lZ83, lZ60, lZ57, lZ45, lZ67, lZ61, lZ69, lZ81, lZ49, lZ51, lZ56, lZ89, lZ59, lZ37, lZ72, lZ53, lZ34, lZ75, lZ73, lZ79, lZ41, bff, btf, Option.isNone_some, Option.isNone_none, lZ10, lZ19, lZ5, retV, lZ40, lZ31, lZ22, lZ26, lZ20, List.getD_cons_zero, List.getD_cons_succ]
  refine X_call0 ((culletlaw04_high_spec w11 P2 (Q2.map em8) hP2 (by omega)).mono ?_)
  rintro _ w12 ⟨rfl, rfl⟩
  have B12 := B11
  rw [tln_em8]
  have tm2 := len_tr tm
  simp only [List.getElem_cons_zero, List.getElem_cons_succ, and_true, true_and, decide_true, decide_false, Bool.not_true, Bool.not_false, lZ39, lZ30, lZ42, lZ18, lZ27, lZ38, lZ25, lZ1, lZ4, lZ6, lZ0, lZ2, lZ3, lZ55, lZ44, lZ29, I.at, atL, atO, atP, lZ15, lZ14, lZ98, lZ97, evp, evs, lZ9, ↓reduceIte, Nat.reduceEqDiff, reduceCtorEq, Value.bool.injEq, Bool.false_eq_true, Bool.true_eq_false, lZ11, lZ7, lZ71, lZ43, lZ82, lZ90, lZ70, lZ86, lZ96, lZ93, lZ16, lZ83, lZ60, lZ57, lZ45, lZ67, lZ61, lZ69, lZ81, lZ49, lZ51, lZ56, lZ89, lZ59, lZ37, lZ72, lZ53, lZ34, lZ75, lZ73, lZ79, lZ41, bff, btf, Option.isNone_some, Option.isNone_none, lZ10, lZ19, lZ5, retV, lZ40, lZ31, lZ22, lZ26, lZ20, List.getD_cons_zero, List.getD_cons_succ, show decide ((tln Q2 : Int) - 1 ≤ (tln m : Int) - 1) = false from decide_eq_false (by omega), oq.Xlen, lq, show decide ((1024 : Int) < (q.length : Int)) = false from decide_eq_false (by omega), hr.Xldn (n := 2) rfl, addr_add0, Nat.zero_add, Nat.add_zero, hro.Xld (show 1 < _ by simp)]
  refine X_call0 ((culletlaw04_Rings_mul_b_spec w12 rb rw sq P2 _ _ hb hw oq hP2 (by omega) (by omega)).mono ?_)
  rw [lo8_map_em8, lo8_map_em8]
  rintro _ w13 ⟨hB, ⟨-, -, sp, p, rfl, op, tp, hcp, hlp⟩ | ⟨hn, -⟩⟩
  rotate_left
  · exact absurd ⟨by omega, by omega⟩ hn
  have op := op.sl
  have hro := hro.up hB
  have hb := hb.up hB
  have hw := hw.up hB
  have hr := hr.up hB
  have hP := hP.up hB
  have hP2 := hP2.up hB
  have oq := oq.up hB
  have om := om.up hB
  have B13 : RowKit.Below w.heap.size w w13 := B12.trans (hB.mono B12.size)
  clear hB B12
  have lp : (p.map em8).length = p.length := List.length_map _
  simp only [List.getElem_cons_zero, List.getElem_cons_succ, and_true, true_and, decide_true, decide_false, Bool.not_true, Bool.not_false, lZ39, lZ30, lZ42, lZ18, lZ27, lZ38, lZ25, lZ1, lZ4, lZ6, lZ0, lZ2, lZ3, lZ55, lZ44, lZ29, I.at, atL, atO, atP, lZ15, lZ14, lZ98, lZ97, evp, evs, lZ9, ↓reduceIte, Nat.reduceEqDiff, reduceCtorEq, Value.bool.injEq, Bool.false_eq_true, Bool.true_eq_false, lZ11, lZ7, lZ71, lZ43, lZ82, lZ90, lZ70, lZ86, lZ96, lZ93, lZ16, lZ83, lZ60, lZ57, lZ45, lZ67, lZ61, lZ69, lZ81, lZ49, lZ51, lZ56, lZ89, lZ59, lZ37, lZ72, lZ53, lZ34, lZ75, lZ73, lZ79, lZ41, bff, btf, Option.isNone_some, Option.isNone_none, lZ10, lZ19, lZ5, retV, lZ40, lZ31, lZ22, lZ26, lZ20, List.getD_cons_zero, List.getD_cons_succ]
  refine WP_dops ?_
  have y0 := hr.drew.seesN (n := 2) rfl Try.prog
  have y1 : Fw.sees Try.prog (.ld (.c (.pointer (some ⟨bo, 1, none⟩)))) w13.drew (.bool false) = True := hro.drew.sees (o := 1) (by simp) Try.prog
  simp only [lZ35, lZ28, lZ17, lZ24, lZ21, lZ54, lZ8, lZ23, lZ12, lZ84, List.mem_cons, List.not_mem_nil, or_self, List.getElem_cons_zero, List.getElem_cons_succ, or_false, false_or, false_implies, implies_true, forall_const, lZ95, lZ32, lZ94, lZ62, lZ88, lZ91, lZ99, lZ80, lZ13, lZ52, lZ78, lZ46, lZ77, lZ48, lZ92, lZ66, lZ58, lZ85, lZ76, lZ74, lZ64, lZ65, lZ36, lZ63, lZ68, lZ33, lZ50, lZ47, lZ87, List.getElem_cons_zero, List.getElem_cons_succ, and_true, true_and, decide_true, decide_false, Bool.not_true, Bool.not_false, lZ39, lZ30, lZ42, lZ18, lZ27, lZ38, lZ25, lZ1, lZ4, lZ6, lZ0, lZ2, lZ3, lZ55, lZ44, lZ29, I.at, atL, atO, atP, lZ15, lZ14, lZ98, lZ97, evp, evs, lZ9, ↓reduceIte, Nat.reduceEqDiff, reduceCtorEq, Value.bool.injEq, Bool.false_eq_true, Bool.true_eq_false, lZ11, lZ7, lZ71, lZ43, lZ82, lZ90, lZ70, lZ86, lZ96, lZ93, lZ16, lZ83, lZ60, lZ57, lZ45, lZ67, lZ61, lZ69, lZ81, lZ49, lZ51, lZ56, lZ89, lZ59, lZ37, lZ72, lZ53, lZ34, lZ75, lZ73, lZ79, lZ41, bff, btf, Option.isNone_some, Option.isNone_none, lZ10, lZ19, lZ5, retV, lZ40, lZ31, lZ22, lZ26, lZ20, List.getD_cons_zero, List.getD_cons_succ, addr_add0, Nat.zero_add, Nat.add_zero, show decide ((0 : Int) = 0) = true from rfl, hr.drew.Eldn (n := 2) rfl, hro.drew.Eld (show 1 < _ by simp)]
  refine E_call0 ((culletlaw04_Rings_add_b_spec w13.drew rb rw sp sm _ _ hb.drew hw.drew op.drew om.drew (by omega) (by omega)).mono ?_)
  rw [lo8_map_em8, lo8_map_em8]
  rintro sa w14 ⟨hB, a, oa, ta, hca, hla⟩
  have oa := oa.sl
  have hB := (bel_drew w13).trans hB
  have hro := hro.up hB
  have hb := hb.up hB
  have hw := hw.up hB
  have hr := hr.up hB
  have hP := hP.up hB
  have hP2 := hP2.up hB
  have oq := oq.up hB
  have om := om.up hB
  have op := op.up hB
  have B14 : RowKit.Below w.heap.size w w14 := B13.trans (hB.mono B13.size)
  clear hB B13
  simp only [lZ35, lZ28, lZ17, lZ24, lZ21, lZ54, lZ8, lZ23, lZ12, lZ84, List.mem_cons, List.not_mem_nil, or_self, List.getElem_cons_zero, List.getElem_cons_succ, or_false, false_or, false_implies, implies_true, forall_const, lZ95, lZ32, lZ94, lZ62, lZ88, lZ91, lZ99, lZ80, lZ13, lZ52, lZ78, lZ46, lZ77, lZ48, lZ92, lZ66, lZ58, lZ85, lZ76, lZ74, lZ64, lZ65, lZ36, lZ63, lZ68, lZ33, lZ50, lZ47, lZ87, List.getElem_cons_zero, List.getElem_cons_succ, and_true, true_and, decide_true, decide_false, Bool.not_true, Bool.not_false, lZ39, lZ30, lZ42, lZ18, lZ27, lZ38, lZ25, lZ1, lZ4, lZ6, lZ0, lZ2, lZ3, lZ55, lZ44, lZ29, I.at, atL, atO, atP, lZ15, lZ14, lZ98, lZ97, evp, evs, lZ9, ↓reduceIte, Nat.reduceEqDiff, reduceCtorEq, Value.bool.injEq, Bool.false_eq_true, Bool.true_eq_false, lZ11, lZ7, lZ71, lZ43, lZ82, lZ90, lZ70, lZ86, lZ96, lZ93, lZ16, lZ83, lZ60, lZ57, lZ45, lZ67, lZ61, lZ69, lZ81, lZ49, lZ51, lZ56, lZ89, lZ59, lZ37, lZ72, lZ53, lZ34, lZ75, lZ73, lZ79, lZ41, bff, btf, Option.isNone_some, Option.isNone_none, lZ10, lZ19, lZ5, retV, lZ40, lZ31, lZ22, lZ26, lZ20, List.getD_cons_zero, List.getD_cons_succ, addr_add0, Nat.zero_add, Nat.add_zero, y0, y1, hr.Eldn (n := 2) rfl, hro.Eld (show 1 < _ by simp)]
  refine E_call0 ((culletlaw04_Rings_trim_b_spec w14 rb rw P _ hb hw hP (by omega)).mono ?_)
  rw [lo8_map_em8]
  rintro st w15 ⟨hB, f, of, tf, hcf, hlf⟩
  have of := of.sl
  have oa := oa.up hB
  have B15 : RowKit.Below w.heap.size w w15 := B14.trans (hB.mono B14.size)
  clear hB B14
  simp only [lZ35, lZ28, lZ17, lZ24, lZ21, lZ54, lZ8, lZ23, lZ12, lZ84, List.mem_cons, List.not_mem_nil, or_self, List.getElem_cons_zero, List.getElem_cons_succ, or_false, false_or, false_implies, implies_true, forall_const, lZ95, lZ32, lZ94, lZ62, lZ88, lZ91, lZ99, lZ80, lZ13, lZ52, lZ78, lZ46, lZ77, lZ48, lZ92, lZ66, lZ58, lZ85, lZ76, lZ74, lZ64, lZ65, lZ36, lZ63, lZ68, lZ33, lZ50, lZ47, lZ87, List.getElem_cons_zero, List.getElem_cons_succ, and_true, true_and, decide_true, decide_false, Bool.not_true, Bool.not_false, lZ39, lZ30, lZ42, lZ18, lZ27, lZ38, lZ25, lZ1, lZ4, lZ6, lZ0, lZ2, lZ3, lZ55, lZ44, lZ29, I.at, atL, atO, atP, lZ15, lZ14, lZ98, lZ97, evp, evs, lZ9, ↓reduceIte, Nat.reduceEqDiff, reduceCtorEq, Value.bool.injEq, Bool.false_eq_true, Bool.true_eq_false, lZ11, lZ7, lZ71, lZ43, lZ82, lZ90, lZ70, lZ86, lZ96, lZ93, lZ16, lZ83, lZ60, lZ57, lZ45, lZ67, lZ61, lZ69, lZ81, lZ49, lZ51, lZ56, lZ89, lZ59, lZ37, lZ72, lZ53, lZ34, lZ75, lZ73, lZ79, lZ41, bff, btf, Option.isNone_some, Option.isNone_none, lZ10, lZ19, lZ5, retV, lZ40, lZ31, lZ22, lZ26, lZ20, List.getD_cons_zero, List.getD_cons_succ]
  refine E_call0 ((culletlaw04_same_spec w15 sa st _ _ oa of (by simp only [List.length_map]; omega) (by simp only [List.length_map]; omega)).mono ?_)
  rintro _ w16 ⟨rfl, hk⟩
  have hB := hk.1
  clear hk
  have B16 : RowKit.Below w.heap.size w w16 := B15.trans (hB.mono B15.size)
  clear hB B15
  have : a = f := tr_inj ta tf (by rw [hca, hcf, hcp, hco])
  simp only [lZ35, lZ28, lZ17, lZ24, lZ21, lZ54, lZ8, lZ23, lZ12, lZ84, List.mem_cons, List.not_mem_nil, or_self, List.getElem_cons_zero, List.getElem_cons_succ, or_false, false_or, false_implies, implies_true, forall_const, lZ95, lZ32, lZ94, lZ62, lZ88, lZ91, lZ99, lZ80, lZ13, lZ52, lZ78, lZ46, lZ77, lZ48, lZ92, lZ66, lZ58, lZ85, lZ76, lZ74, lZ64, lZ65, lZ36, lZ63, lZ68, lZ33, lZ50, lZ47, lZ87, List.getElem_cons_zero, List.getElem_cons_succ, and_true, true_and, decide_true, decide_false, Bool.not_true, Bool.not_false, lZ39, lZ30, lZ42, lZ18, lZ27, lZ38, lZ25, lZ1, lZ4, lZ6, lZ0, lZ2, lZ3, lZ55, lZ44, lZ29, I.at, atL, atO, atP, lZ15, lZ14, lZ98, lZ97, evp, evs, lZ9, ↓reduceIte, Nat.reduceEqDiff, reduceCtorEq, Value.bool.injEq, Bool.false_eq_true, Bool.true_eq_false, lZ11, lZ7, lZ71, lZ43, lZ82, lZ90, lZ70, lZ86, lZ96, lZ93, lZ16, lZ83, lZ60, lZ57, lZ45, lZ67, lZ61, lZ69, lZ81, lZ49, lZ51, lZ56, lZ89, lZ59, lZ37, lZ72, lZ53, lZ34, lZ75, lZ73, lZ79, lZ41, bff, btf, Option.isNone_some, Option.isNone_none, lZ10, lZ19, lZ5, retV, lZ40, lZ31, lZ22, lZ26, lZ20, List.getD_cons_zero, List.getD_cons_succ, this]
  exact B16
end Go.Proofs.Ytcdagkcchfibjaa.Fw
