import Derived.Test.YtcdagkcchfibjaaProg
import Derived.Test.YtcdagkcchfibjaaFwTM
import Derived.Test.YtcdagkcchfibjaaSPMdM
set_option linter.all false
set_option linter.unusedVariables false
set_option linter.unusedSimpArgs false
set_option maxRecDepth 100000
set_option maxHeartbeats 1000000
namespace Go.Proofs.Ytcdagkcchfibjaa.Fw
open Go Go.Fw Go.Proofs
attribute [local irreducible] stepI
def c_culletlaw04_looks16 : C := .seq (.ops [⟨0, (some 1), none, .box 33 (.t 0), []⟩, ⟨1, (some 2), none, .mov (.c (.bool false)), []⟩]) (.seq (.ops [⟨0, (some 11), none, .call (.c (.func (.func 36) #[] #[])) [], []⟩, ⟨1, (some 3), none, .mov (.t 11), []⟩]) (.seq (.ops [⟨0, (some 13), none, .fad 2 (.t 1), []⟩, ⟨1, (some 14), none, .ld (.t 13), []⟩, ⟨2, (some 15), none, .call (.c (.func (.func 63) #[] #[])) [.t 14], []⟩, ⟨3, (some 12), none, .mov (.t 15), []⟩, ⟨4, (some 16), none, .ext (.t 12) 0, []⟩, ⟨5, (some 17), none, .ext (.t 12) 1, []⟩, ⟨6, (some 4), none, .mov (.t 16), []⟩, ⟨7, (some 5), none, .mov (.t 17), []⟩]) (.seq (.ops [⟨0, (some 18), none, .mov (.t 4), []⟩, ⟨1, (some 19), none, .bsl 27 1 [.slice none 0 0] [(0, (1, .t 18))], []⟩, ⟨2, (some 20), none, .call (.c (.func (.func 64) #[] #[])) [.t 19], []⟩, ⟨3, (some 6), none, .mov (.t 20), []⟩]) (.seq (.ops [⟨0, (some 21), none, .fad 4 (.t 1), []⟩, ⟨1, (some 22), none, .ld (.t 21), []⟩, ⟨2, (some 7), none, .mov (.t 22), []⟩]) (.seq (.ops [⟨0, (some 23), none, .mov (.t 3), []⟩, ⟨1, (some 24), none, .mov (.t 5), []⟩, ⟨2, (some 25), none, .call (.c (.func (.func 61) #[] #[])) [.t 23, .t 24], []⟩, ⟨3, (some 8), none, .mov (.t 25), []⟩]) (.seq (.ops [⟨0, (some 26), none, .mov (.t 3), []⟩, ⟨1, (some 27), none, .mov (.t 5), []⟩, ⟨2, (some 28), none, .mov (.t 7), []⟩, ⟨3, (some 29), none, .call (.c (.func (.func 53) #[] #[])) [.t 26, .t 27, .t 28], []⟩, ⟨4, (some 9), none, .mov (.t 29), []⟩]) (.seq (.seq (.ops [⟨0, (some 30), none, .mov (.t 8), []⟩, ⟨1, (some 31), none, .mov (.t 5), []⟩, ⟨2, (some 32), none, .call (.c (.func (.func 27) #[] #[])) [.t 31], []⟩, ⟨3, (some 33), none, .bin .neq (.t 30) (.t 32), []⟩, ⟨4, (some 34), none, .mov (.t 33), []⟩, ⟨5, (some 35), (some (34, false)), .mov (.t 9), []⟩, ⟨6, (some 36), (some (34, false)), .mov (.t 5), []⟩, ⟨7, (some 37), (some (34, false)), .mov (.t 7), []⟩, ⟨8, (some 38), (some (34, false)), .call (.c (.func (.func 19) #[] #[])) [.c (.bool true), .t 36, .t 37], []⟩, ⟨9, (some 39), (some (34, false)), .bin .neq (.t 35) (.t 38), []⟩, ⟨10, (some 40), none, .pick (.t 34) (.c (.bool true)) (.t 39), []⟩, ⟨11, (some 41), none, .mov (.t 40), []⟩, ⟨12, (some 42), (some (41, false)), .mov (.t 3), []⟩, ⟨13, (some 43), (some (41, false)), .mov (.t 5), []⟩, ⟨14, (some 44), (some (41, false)), .mov (.t 7), []⟩, ⟨15, (some 45), (some (41, false)), .call (.c (.func (.func 53) #[] #[])) [.t 42, .t 43, .t 44], []⟩, ⟨16, (some 46), (some (41, false)), .mov (.t 9), []⟩, ⟨17, (some 47), (some (41, false)), .bin .neq (.t 45) (.t 46), []⟩, ⟨18, (some 48), none, .pick (.t 41) (.c (.bool true)) (.t 47), []⟩, ⟨19, (some 49), none, .mov (.t 48), []⟩, ⟨20, (some 50), (some (49, false)), .mov (.t 4), []⟩, ⟨21, (some 51), (some (49, false)), .bsl 27 1 [.slice none 0 0] [(0, (1, .t 50))], []⟩, ⟨22, (some 52), (some (49, false)), .mov (.t 6), []⟩, ⟨23, (some 53), (some (49, false)), .call (.c (.func (.func 65) #[] #[])) [.t 51, .t 52], []⟩, ⟨24, (some 54), (some (49, false)), .un .not (.t 53), []⟩, ⟨25, (some 55), none, .pick (.t 49) (.c (.bool true)) (.t 54), []⟩]) (.ite (.t 55) (.seq (.ops [⟨0, (some 2), none, .mov (.c (.bool false)), []⟩]) .ret) .skip)) (.seq (.seq (.ops [⟨0, (some 10), none, .mov (.c (.int .i64 0)), []⟩]) (.block 0 (.loop (.seq (.seq (.ops [⟨0, (some 56), none, .mov (.t 10), []⟩, ⟨1, (some 57), none, .mov (.t 5), []⟩, ⟨2, (some 58), none, .len (.t 57), []⟩, ⟨3, (some 59), none, .bin .lss (.t 56) (.t 58), []⟩]) (.ite (.t 59) .skip (.exit 0))) (.seq (.block 1 (.ops [⟨0, (some 62), none, .mov (.t 5), []⟩, ⟨1, (some 63), none, .mov (.t 10), []⟩, ⟨2, (some 64), none, .mov (.t 10), []⟩, ⟨3, (some 65), none, .bin .rem (.t 64) (.c (.int .i64 3)), []⟩, ⟨4, (some 66), none, .cnv .u16 (.t 65), []⟩, ⟨5, (some 67), none, .ixs 1 (.t 62) (.t 63), []⟩, ⟨6, none, none, .st (.t 67) (.t 66), []⟩])) (.ops [⟨0, (some 60), none, .mov (.t 10), []⟩, ⟨1, (some 61), none, .bin .add (.t 60) (.c (.int .i64 1)), []⟩, ⟨2, (some 10), none, .mov (.t 61), []⟩])))))) (.seq (.ops [⟨0, (some 68), none, .mov (.t 4), []⟩, ⟨1, (some 69), none, .bsl 27 1 [.slice none 0 0] [(0, (1, .t 68))], []⟩, ⟨2, (some 70), none, .call (.c (.func (.func 64) #[] #[])) [.t 69], []⟩, ⟨3, (some 6), none, .mov (.t 70), []⟩]) (.seq (.ops [⟨0, (some 71), none, .mov (.t 3), []⟩, ⟨1, (some 72), none, .mov (.t 5), []⟩, ⟨2, (some 73), none, .call (.c (.func (.func 61) #[] #[])) [.t 71, .t 72], []⟩, ⟨3, (some 8), none, .mov (.t 73), []⟩]) (.seq (.ops [⟨0, (some 74), none, .mov (.t 3), []⟩, ⟨1, (some 75), none, .mov (.t 5), []⟩, ⟨2, (some 76), none, .mov (.t 7), []⟩, ⟨3, (some 77), none, .call (.c (.func (.func 53) #[] #[])) [.t 74, .t 75, .t 76], []⟩, ⟨4, (some 9), none, .mov (.t 77), []⟩]) (.seq (.ops [⟨0, (some 78), none, .mov (.t 8), []⟩, ⟨1, (some 79), none, .mov (.t 5), []⟩, ⟨2, (some 80), none, .call (.c (.func (.func 27) #[] #[])) [.t 79], []⟩, ⟨3, (some 81), none, .bin .eql (.t 78) (.t 80), []⟩, ⟨4, (some 82), none, .mov (.t 81), []⟩, ⟨5, (some 83), (some (82, true)), .mov (.t 9), []⟩, ⟨6, (some 84), (some (82, true)), .mov (.t 5), []⟩, ⟨7, (some 85), (some (82, true)), .mov (.t 7), []⟩, ⟨8, (some 86), (some (82, true)), .call (.c (.func (.func 19) #[] #[])) [.c (.bool true), .t 84, .t 85], []⟩, ⟨9, (some 87), (some (82, true)), .bin .eql (.t 83) (.t 86), []⟩, ⟨10, (some 88), none, .pick (.t 82) (.t 87) (.c (.bool false)), []⟩, ⟨11, (some 89), none, .mov (.t 88), []⟩, ⟨12, (some 90), (some (89, true)), .mov (.t 4), []⟩, ⟨13, (some 91), (some (89, true)), .bsl 27 1 [.slice none 0 0] [(0, (1, .t 90))], []⟩, ⟨14, (some 92), (some (89, true)), .mov (.t 6), []⟩, ⟨15, (some 93), (some (89, true)), .call (.c (.func (.func 65) #[] #[])) [.t 91, .t 92], []⟩, ⟨16, (some 94), none, .pick (.t 89) (.t 93) (.c (.bool false)), []⟩, ⟨17, (some 2), none, .mov (.t 94), []⟩]) .ret))))))))))))
attribute [irreducible] c_culletlaw04_looks16
theorem run_culletlaw04_looks16 {args : List Value} {w : World} {K : Value → World → Prop} (hn : args.length ≤ 95) (h : WP Try.prog c_culletlaw04_looks16 (endQ [.t 2] K) (initT args) w) : CallV Try.prog 31 args w K :=
  call_of follows Try.func31 (by kernel_rfl) (by kernel_rfl) hn h
def c_culletlaw04_looks8 : C := .seq (.ops [⟨0, (some 1), none, .box 33 (.t 0), []⟩, ⟨1, (some 2), none, .mov (.c (.bool false)), []⟩]) (.seq (.ops [⟨0, (some 11), none, .call (.c (.func (.func 35) #[] #[])) [], []⟩, ⟨1, (some 3), none, .mov (.t 11), []⟩]) (.seq (.ops [⟨0, (some 13), none, .fad 2 (.t 1), []⟩, ⟨1, (some 14), none, .ld (.t 13), []⟩, ⟨2, (some 15), none, .call (.c (.func (.func 40) #[] #[])) [.t 14], []⟩, ⟨3, (some 16), none, .call (.c (.func (.func 66) #[] #[])) [.t 15], []⟩, ⟨4, (some 12), none, .mov (.t 16), []⟩, ⟨5, (some 17), none, .ext (.t 12) 0, []⟩, ⟨6, (some 18), none, .ext (.t 12) 1, []⟩, ⟨7, (some 4), none, .mov (.t 17), []⟩, ⟨8, (some 5), none, .mov (.t 18), []⟩]) (.seq (.ops [⟨0, (some 19), none, .mov (.t 4), []⟩, ⟨1, (some 20), none, .bsl 57 1 [.slice none 0 0] [(0, (1, .t 19))], []⟩, ⟨2, (some 21), none, .call (.c (.func (.func 67) #[] #[])) [.t 20], []⟩, ⟨3, (some 6), none, .mov (.t 21), []⟩]) (.seq (.ops [⟨0, (some 22), none, .fad 4 (.t 1), []⟩, ⟨1, (some 23), none, .ld (.t 22), []⟩, ⟨2, (some 24), none, .cnv .u8 (.t 23), []⟩, ⟨3, (some 7), none, .mov (.t 24), []⟩]) (.seq (.ops [⟨0, (some 25), none, .mov (.t 3), []⟩, ⟨1, (some 26), none, .mov (.t 5), []⟩, ⟨2, (some 27), none, .call (.c (.func (.func 62) #[] #[])) [.t 25, .t 26], []⟩, ⟨3, (some 8), none, .mov (.t 27), []⟩]) (.seq (.ops [⟨0, (some 28), none, .mov (.t 3), []⟩, ⟨1, (some 29), none, .mov (.t 5), []⟩, ⟨2, (some 30), none, .mov (.t 7), []⟩, ⟨3, (some 31), none, .call (.c (.func (.func 54) #[] #[])) [.t 28, .t 29, .t 30], []⟩, ⟨4, (some 9), none, .mov (.t 31), []⟩]) (.seq (.seq (.ops [⟨0, (some 32), none, .mov (.t 8), []⟩, ⟨1, (some 33), none, .mov (.t 5), []⟩, ⟨2, (some 34), none, .call (.c (.func (.func 41) #[] #[])) [.t 33], []⟩, ⟨3, (some 35), none, .call (.c (.func (.func 27) #[] #[])) [.t 34], []⟩, ⟨4, (some 36), none, .bin .neq (.t 32) (.t 35), []⟩, ⟨5, (some 37), none, .mov (.t 36), []⟩, ⟨6, (some 38), (some (37, false)), .mov (.t 9), []⟩, ⟨7, (some 39), (some (37, false)), .mov (.t 5), []⟩, ⟨8, (some 40), (some (37, false)), .call (.c (.func (.func 41) #[] #[])) [.t 39], []⟩, ⟨9, (some 41), (some (37, false)), .mov (.t 7), []⟩, ⟨10, (some 42), (some (37, false)), .cnv .u16 (.t 41), []⟩, ⟨11, (some 43), (some (37, false)), .call (.c (.func (.func 19) #[] #[])) [.c (.bool false), .t 40, .t 42], []⟩, ⟨12, (some 44), (some (37, false)), .cnv .u8 (.t 43), []⟩, ⟨13, (some 45), (some (37, false)), .bin .neq (.t 38) (.t 44), []⟩, ⟨14, (some 46), none, .pick (.t 37) (.c (.bool true)) (.t 45), []⟩, ⟨15, (some 47), none, .mov (.t 46), []⟩, ⟨16, (some 48), (some (47, false)), .mov (.t 3), []⟩, ⟨17, (some 49), (some (47, false)), .mov (.t 5), []⟩, ⟨18, (some 50), (some (47, false)), .mov (.t 7), []⟩, ⟨19, (some 51), (some (47, false)), .call (.c (.func (.func 54) #[] #[])) [.t 48, .t 49, .t 50], []⟩, ⟨20, (some 52), (some (47, false)), .mov (.t 9), []⟩, ⟨21, (some 53), (some (47, false)), .bin .neq (.t 51) (.t 52), []⟩, ⟨22, (some 54), none, .pick (.t 47) (.c (.bool true)) (.t 53), []⟩, ⟨23, (some 55), none, .mov (.t 54), []⟩, ⟨24, (some 56), (some (55, false)), .mov (.t 4), []⟩, ⟨25, (some 57), (some (55, false)), .bsl 57 1 [.slice none 0 0] [(0, (1, .t 56))], []⟩, ⟨26, (some 58), (some (55, false)), .mov (.t 6), []⟩, ⟨27, (some 59), (some (55, false)), .call (.c (.func (.func 68) #[] #[])) [.t 57, .t 58], []⟩, ⟨28, (some 60), (some (55, false)), .un .not (.t 59), []⟩, ⟨29, (some 61), none, .pick (.t 55) (.c (.bool true)) (.t 60), []⟩]) (.ite (.t 61) (.seq (.ops [⟨0, (some 2), none, .mov (.c (.bool false)), []⟩]) .ret) .skip)) (.seq (.seq (.ops [⟨0, (some 10), none, .mov (.c (.int .i64 0)), []⟩]) (.block 0 (.loop (.seq (.seq (.ops [⟨0, (some 62), none, .mov (.t 10), []⟩, ⟨1, (some 63), none, .mov (.t 5), []⟩, ⟨2, (some 64), none, .len (.t 63), []⟩, ⟨3, (some 65), none, .bin .lss (.t 62) (.t 64), []⟩]) (.ite (.t 65) .skip (.exit 0))) (.seq (.block 1 (.ops [⟨0, (some 68), none, .mov (.t 5), []⟩, ⟨1, (some 69), none, .mov (.t 10), []⟩, ⟨2, (some 70), none, .mov (.t 10), []⟩, ⟨3, (some 71), none, .bin .rem (.t 70) (.c (.int .i64 3)), []⟩, ⟨4, (some 72), none, .cnv .u8 (.t 71), []⟩, ⟨5, (some 73), none, .ixs 1 (.t 68) (.t 69), []⟩, ⟨6, none, none, .st (.t 73) (.t 72), []⟩])) (.ops [⟨0, (some 66), none, .mov (.t 10), []⟩, ⟨1, (some 67), none, .bin .add (.t 66) (.c (.int .i64 1)), []⟩, ⟨2, (some 10), none, .mov (.t 67), []⟩])))))) (.seq (.ops [⟨0, (some 74), none, .mov (.t 4), []⟩, ⟨1, (some 75), none, .bsl 57 1 [.slice none 0 0] [(0, (1, .t 74))], []⟩, ⟨2, (some 76), none, .call (.c (.func (.func 67) #[] #[])) [.t 75], []⟩, ⟨3, (some 6), none, .mov (.t 76), []⟩]) (.seq (.ops [⟨0, (some 77), none, .mov (.t 3), []⟩, ⟨1, (some 78), none, .mov (.t 5), []⟩, ⟨2, (some 79), none, .call (.c (.func (.func 62) #[] #[])) [.t 77, .t 78], []⟩, ⟨3, (some 8), none, .mov (.t 79), []⟩]) (.seq (.ops [⟨0, (some 80), none, .mov (.t 3), []⟩, ⟨1, (some 81), none, .mov (.t 5), []⟩, ⟨2, (some 82), none, .mov (.t 7), []⟩, ⟨3, (some 83), none, .call (.c (.func (.func 54) #[] #[])) [.t 80, .t 81, .t 82], []⟩, ⟨4, (some 9), none, .mov (.t 83), []⟩]) (.seq (.ops [⟨0, (some 84), none, .mov (.t 8), []⟩, ⟨1, (some 85), none, .mov (.t 5), []⟩, ⟨2, (some 86), none, .call (.c (.func (.func 41) #[] #[])) [.t 85], []⟩, ⟨3, (some 87), none, .call (.c (.func (.func 27) #[] #[])) [.t 86], []⟩, ⟨4, (some 88), none, .bin .eql (.t 84) (.t 87), []⟩, ⟨5, (some 89), none, .mov (.t 88), []⟩, ⟨6, (some 90), (some (89, true)), .mov (.t 9), []⟩, ⟨7, (some 91), (some (89, true)), .mov (.t 5), []⟩, ⟨8, (some 92), (some (89, true)), .call (.c (.func (.func 41) #[] #[])) [.t 91], []⟩, ⟨9, (some 93), (some (89, true)), .mov (.t 7), []⟩, ⟨10, (some 94), (some (89, true)), .cnv .u16 (.t 93), []⟩, ⟨11, (some 95), (some (89, true)), .call (.c (.func (.func 19) #[] #[])) [.c (.bool false), .t 92, .t 94], []⟩, ⟨12, (some 96), (some (89, true)), .cnv .u8 (.t 95), []⟩, ⟨13, (some 97), (some (89, true)), .bin .eql (.t 90) (.t 96), []⟩, ⟨14, (some 98), none, .pick (.t 89) (.t 97) (.c (.bool false)), []⟩, ⟨15, (some 99), none, .mov (.t 98), []⟩, ⟨16, (some 100), (some (99, true)), .mov (.t 4), []⟩, ⟨17, (some 101), (some (99, true)), .bsl 57 1 [.slice none 0 0] [(0, (1, .t 100))], []⟩, ⟨18, (some 102), (some (99, true)), .mov (.t 6), []⟩, ⟨19, (some 103), (some (99, true)), .call (.c (.func (.func 68) #[] #[])) [.t 101, .t 102], []⟩, ⟨20, (some 104), none, .pick (.t 99) (.t 103) (.c (.bool false)), []⟩, ⟨21, (some 2), none, .mov (.t 104), []⟩]) .ret))))))))))))
attribute [irreducible] c_culletlaw04_looks8
theorem run_culletlaw04_looks8 {args : List Value} {w : World} {K : Value → World → Prop} (hn : args.length ≤ 105) (h : WP Try.prog c_culletlaw04_looks8 (endQ [.t 2] K) (initT args) w) : CallV Try.prog 32 args w K :=
  call_of follows Try.func32 (by kernel_rfl) (by kernel_rfl) hn h
end Go.Proofs.Ytcdagkcchfibjaa.Fw
namespace Go.Proofs.Ytcdagkcchfibjaa.Fw
open Go Go.Fw
set_option maxHeartbeats 8000000 in
theorem culletlaw04_looks16_spec (w : World) (k n : Int) (fl : Bool) (F G : Value) (LF : List (El 16)) (x : El 16) (hF : Sl w F LF) (lF : LF.length ≤ 70368744175616) :
    CallV Try.prog 31 [.agg #[.int .i64 k, .bool fl, F, G, .int .u16 (x.v.toNat : Int), .int .i64 n]] w fun v w' => v = .bool true ∧ RowKit.Below w.heap.size w w' := by
  have dt : ∀ e : Int, decide (e = e) = true := fun e => decide_eq_true rfl
  refine run_culletlaw04_looks16 (by simp) ?_
  simp only [c_culletlaw04_looks16, WS, List.getElem_cons_zero, List.getElem_cons_succ, Option.isNone_some, Option.isNone_none, List.getD_cons_zero, List.getD_cons_succ, I.at, atL, atO, atP, evp, evs, retV, ↓reduceIte, Nat.reduceEqDiff, reduceCtorEq]
  refine X_box fun b w1 hro hlb hB => ?_
  have hro : Row w1 b [.int .i64 k, .bool fl, F, G, .int .u16 (x.v.toNat : Int), .int .i64 n] := hro
  have B := hB
  have hF := hF.up hB
  clear hB hlb
  simp (maxSteps := 1000000) (disch := omega) only [WS, List.getElem_cons_zero, List.getElem_cons_succ, Option.isNone_some, Option.isNone_none, List.getD_cons_zero, List.getD_cons_succ, I.at, atL, atO, atP, evp, evs, retV, ↓reduceIte, Nat.reduceEqDiff, reduceCtorEq, AS]
  refine X_call0 ((polys_Over16_spec w1).mono ?_)
  rintro r w2 ⟨hr, hB, -⟩
  have hF := hF.up hB
  have hro := hro.up hB
  have B := B.trans (hB.mono B.size)
  clear hB
  obtain ⟨bR, mvR, ivR, rfl, -, -⟩ := id hr
  have B2 := B.size
  have hr2 := hr
  have hro2 := hro
  generalize hL : LF = L
  have lL : L.length ≤ 70368744175616 := by rw [← hL]; exact lF
  simp (maxSteps := 1000000) (disch := omega) only [WS, List.getElem_cons_zero, List.getElem_cons_succ, Option.isNone_some, Option.isNone_none, List.getD_cons_zero, List.getD_cons_succ, I.at, atL, atO, atP, evp, evs, retV, ↓reduceIte, Nat.reduceEqDiff, reduceCtorEq, AS, hro.Xld (show 2 < _ by simp)]
  rw [hL] at hF
  refine X_call0 ((culletlaw04_roomy16_spec _ _ L hF lL).mono ?_)
  rintro _ w3 ⟨hB, sv, rfl, oV⟩
  have lV : (L ++ mkw).length = L.length + 8 := by rw [List.length_append, mkw_len]
  have tV : (L ++ mkw).take L.length = L := by simp
  have q3 := hB.size
  have hBC := hB
  have hr := hr.up hB
  have hro := hro.up hB
  have B := B.trans (hB.mono B.size)
  clear hB
  have C := hBC
  obtain ⟨xv, rfl⟩ : ∃ x : Hd, sv = Cell.v x := ⟨hd sv, oV.sl.hd.1.symm⟩
  generalize L ++ mkw = V at oV lV tV
  have hle : ∀ V : List (El 16), V.length = L.length + 8 → L.length ≤ V.length := fun V h => by omega
  have tkl : ∀ V : List (El 16), V.length = L.length + 8 → (V.take L.length).length = L.length := fun V h => by rw [List.length_take]; omega
  have osub : ∀ {lo hi : Nat} (u : World) (V : List (El 16)), V.length = L.length + 8 → Seg lo hi u (Cell.v xv) V → Sl u (Fw.sub (Cell.v xv) 0 L.length) (V.take L.length) := fun u V h1 h2 => (h2.own.sub0 (hle V h1)).sl
  simp (maxSteps := 1000000) (disch := omega) only [WS, List.getElem_cons_zero, List.getElem_cons_succ, Option.isNone_some, Option.isNone_none, List.getD_cons_zero, List.getD_cons_succ, I.at, atL, atO, atP, evp, evs, retV, ↓reduceIte, Nat.reduceEqDiff, reduceCtorEq, AS]
  refine X_bsl (zs := [xv]) (by rfl) (by rfl) fun s1 w4 o1 hB => ?_
  have C := C.trans (hB.mono C.size)
  have oV := oV.up hB
  have hr := hr.up hB
  have hro := hro.up hB
  have B := B.trans (hB.mono B.size)
  clear hB
  have g1 : Rlw w4 s1 [xv] (fun _ => V) := ⟨o1.sl, fun j hj => by obtain rfl : j = 0 := by simpa using hj
                                                                  exact oV.sl, fun j _ => by omega, by simp⟩
  simp (maxSteps := 1000000) (disch := omega) only [WS, List.getElem_cons_zero, List.getElem_cons_succ, Option.isNone_some, Option.isNone_none, List.getD_cons_zero, List.getD_cons_succ, I.at, atL, atO, atP, evp, evs, retV, ↓reduceIte, Nat.reduceEqDiff, reduceCtorEq, AS]
  refine X_call0 ((culletlaw04_copies16_spec w4 s1 [xv] _ g1).mono ?_)
  rintro s2 w5 ⟨hB, hs2, lh2, g2⟩
  have C := C.trans (hB.mono C.size)
  have oV := oV.up hB
  have hr := hr.up hB
  have hro := hro.up hB
  have B := B.trans (hB.mono B.size)
  clear hB
  have hsub := osub w5 V lV oV
  rw [tV] at hsub
  simp (maxSteps := 1000000) (disch := omega) only [WS, List.getElem_cons_zero, List.getElem_cons_succ, Option.isNone_some, Option.isNone_none, List.getD_cons_zero, List.getD_cons_succ, I.at, atL, atO, atP, evp, evs, retV, ↓reduceIte, Nat.reduceEqDiff, reduceCtorEq, AS, hro.Xld (show 4 < _ by simp)]
  refine X_call0 ((polys_Ring_w_Degree_spec w5 _ _ L hr hsub lL).mono ?_)
  rintro _ w' ⟨rfl, rfl⟩
  simp (maxSteps := 1000000) (disch := omega) only [WS, List.getElem_cons_zero, List.getElem_cons_succ, Option.isNone_some, Option.isNone_none, List.getD_cons_zero, List.getD_cons_succ, I.at, atL, atO, atP, evp, evs, retV, ↓reduceIte, Nat.reduceEqDiff, reduceCtorEq, AS]
  refine X_call0 ((polys_Ring_w_Eval_spec w' _ _ L x hr hsub lL).mono ?_)
  rintro _ w6 ⟨rfl, hB⟩
  have C := C.trans (hB.mono C.size)
  have g2 := g2.up hB
  have oV := oV.up hB
  have hr := hr.up hB
  have hro := hro.up hB
  have hsub := hsub.up hB
  have B := B.trans (hB.mono B.size)
  clear hB
  simp (maxSteps := 1000000) (disch := omega) only [WS, List.getElem_cons_zero, List.getElem_cons_succ, Option.isNone_some, Option.isNone_none, List.getD_cons_zero, List.getD_cons_succ, I.at, atL, atO, atP, evp, evs, retV, ↓reduceIte, Nat.reduceEqDiff, reduceCtorEq, AS]
  refine X_call0 ((culletlaw04_high_spec _ _ L hsub (by omega)).mono ?_)
  rintro _ w' ⟨rfl, rfl⟩
  simp (maxSteps := 1000000) (disch := omega) only [WS, List.getElem_cons_zero, List.getElem_cons_succ, Option.isNone_some, Option.isNone_none, List.getD_cons_zero, List.getD_cons_succ, I.at, atL, atO, atP, evp, evs, retV, ↓reduceIte, Nat.reduceEqDiff, reduceCtorEq, AS, dt]
  refine X_call0 ((culletlaw04_horner_w_spec w' _ L x (by rw [em16_map]; exact hsub) (by omega)).mono ?_)
  rintro _ w7 ⟨rfl, hB⟩
  rw [em16_nat]
  have C := C.trans (hB.mono C.size)
  have g2 := g2.up hB
  have oV := oV.up hB
  have hr := hr.up hB
  have hro := hro.up hB
  have hsub := hsub.up hB
  have B := B.trans (hB.mono B.size)
  clear hB
  simp (maxSteps := 1000000) (disch := omega) only [WS, List.getElem_cons_zero, List.getElem_cons_succ, Option.isNone_some, Option.isNone_none, List.getD_cons_zero, List.getD_cons_succ, I.at, atL, atO, atP, evp, evs, retV, ↓reduceIte, Nat.reduceEqDiff, reduceCtorEq, AS, dt]
  refine X_call0 ((polys_Ring_w_Eval_spec _ _ _ L x hr hsub lL).mono ?_)
  rintro _ w8 ⟨rfl, hB⟩
  have C := C.trans (hB.mono C.size)
  have g2 := g2.up hB
  have oV := oV.up hB
  have hr := hr.up hB
  have hro := hro.up hB
  have hsub := hsub.up hB
  have B := B.trans (hB.mono B.size)
  clear hB
  simp (maxSteps := 1000000) (disch := omega) only [WS, List.getElem_cons_zero, List.getElem_cons_succ, Option.isNone_some, Option.isNone_none, List.getD_cons_zero, List.getD_cons_succ, I.at, atL, atO, atP, evp, evs, retV, ↓reduceIte, Nat.reduceEqDiff, reduceCtorEq, AS, dt]
  refine X_bsl (zs := [xv]) (by rfl) (by rfl) fun s3 w9 o3 hB => ?_
  have C := C.trans (hB.mono C.size)
  have g2 := g2.up hB
  have oV := oV.up hB
  have hr := hr.up hB
  have hro := hro.up hB
  have hsub := hsub.up hB
  have B := B.trans (hB.mono B.size)
  clear hB
  have g3 : Rlw w9 s3 [xv] (fun _ => V) := ⟨o3.sl, fun j hj => by obtain rfl : j = 0 := by simpa using hj
                                                                  exact oV.sl, fun j _ => by omega, by simp⟩
  have g4 : Rlw w9 s2 hs2 (fun _ => V) := ⟨g2.top.sl, fun j hj => (g2.row j hj).sl, fun j _ => by omega, by rw [lh2]; simp⟩
  simp (maxSteps := 1000000) (disch := omega) only [WS, List.getElem_cons_zero, List.getElem_cons_succ, Option.isNone_some, Option.isNone_none, List.getD_cons_zero, List.getD_cons_succ, I.at, atL, atO, atP, evp, evs, retV, ↓reduceIte, Nat.reduceEqDiff, reduceCtorEq, AS]
  refine X_call0 ((culletlaw04_alike16_spec w9 s3 s2 [xv] hs2 _ g3 g4 lh2.symm).mono ?_)
  rintro _ w10 ⟨rfl, hB⟩
  have C := C.trans (hB.mono C.size)
  have oV := oV.up hB
  have B := B.trans (hB.mono B.size)
  clear hB
  clear hr hro hsub g1 g2 g3 g4 o1 o3
  simp (maxSteps := 1000000) (disch := omega) only [WS, List.getElem_cons_zero, List.getElem_cons_succ, Option.isNone_some, Option.isNone_none, List.getD_cons_zero, List.getD_cons_succ, I.at, atL, atO, atP, evp, evs, retV, ↓reduceIte, Nat.reduceEqDiff, reduceCtorEq, AS]
  refine loop_of (fun t u => t 3 = .pointer (some ⟨bR, 0, none⟩) ∧ t 4 = Cell.v xv ∧ t 5 = Fw.sub (Cell.v xv) 0 L.length ∧ t 7 = .int .u16 (x.v.toNat : Int) ∧ RowKit.Below w.heap.size w u ∧ RowKit.Below w2.heap.size w2 u ∧ ∃ (i : Nat) (V : List (El 16)), t 10 = .int .i64 (i : Int) ∧ i ≤ L.length ∧ Seg w2.heap.size w3.heap.size u (Cell.v xv) V ∧ V.length = L.length + 8)
    (fun t _ => L.length - (toI (t 10)).toNat) ⟨by simp only [WS, List.getElem_cons_zero, List.getElem_cons_succ, Option.isNone_some, Option.isNone_none, List.getD_cons_zero, List.getD_cons_succ, I.at, atL, atO, atP, evp, evs, retV, ↓reduceIte, Nat.reduceEqDiff, reduceCtorEq], by simp only [WS, List.getElem_cons_zero, List.getElem_cons_succ, Option.isNone_some, Option.isNone_none, List.getD_cons_zero, List.getD_cons_succ, I.at, atL, atO, atP, evp, evs, retV, ↓reduceIte, Nat.reduceEqDiff, reduceCtorEq], by simp only [WS, List.getElem_cons_zero, List.getElem_cons_succ, Option.isNone_some, Option.isNone_none, List.getD_cons_zero, List.getD_cons_succ, I.at, atL, atO, atP, evp, evs, retV, ↓reduceIte, Nat.reduceEqDiff, reduceCtorEq], by simp only [WS, List.getElem_cons_zero, List.getElem_cons_succ, Option.isNone_some, Option.isNone_none, List.getD_cons_zero, List.getD_cons_succ, I.at, atL, atO, atP, evp, evs, retV, ↓reduceIte, Nat.reduceEqDiff, reduceCtorEq], B, C, 0, V, rfl, by omega, oV, lV⟩ ?_
  clear B C oV lV tV
  rintro t w11 ⟨t3, t4, t5, t7, B, C, i, V', t10, hi, oV, lV⟩
  by_cases hil : i < L.length
  · have iV : i < V'.length := by omega
    have hsub := osub _ V' lV oV
    have hel : elP (Fw.sub (Cell.v xv) 0 L.length) i = elP (Cell.v xv) i := by rw [elP_sub oV.sl (show 0 < L.length by omega) (hle V' lV), Nat.zero_add]
    have hix := hsub.Xix (k := .i64) (i := i) (by rw [tkl V' lV]; exact hil) Try.prog
    rw [hel] at hix
    have e3 : (i : Int).tmod 3 = ((i % 3 : Nat) : Int) := tmod_nat i 3
    have hlt3 : i % 3 < 3 := Nat.mod_lt _ (by omega)
    have ey : IntKind.u16.wrap ((i % 3 : Nat) : Int) = ((mw (i % 3)).v.toNat : Int) := by rw [wrap_u16 _ (by omega), mw_v _ (by omega)]
    simp (maxSteps := 1000000) (disch := omega) only [WS, List.getElem_cons_zero, List.getElem_cons_succ, Option.isNone_some, Option.isNone_none, List.getD_cons_zero, List.getD_cons_succ, I.at, atL, atO, atP, evp, evs, retV, ↓reduceIte, Nat.reduceEqDiff, reduceCtorEq, AS, t3, t4, t5, t7, t10, hsub.Xlen, tkl V' lV, X_rem, show ((3 : Int) ≠ 0) = True from eq_true (by decide), e3, ey, hix]
    refine oV.Xst iV (mw (i % 3)) fun w12 c oV2 hg hc1 hc2 => ?_
    simp (maxSteps := 1000000) (disch := omega) only [WS, List.getElem_cons_zero, List.getElem_cons_succ, Option.isNone_some, Option.isNone_none, List.getD_cons_zero, List.getD_cons_succ, I.at, atL, atO, atP, evp, evs, retV, ↓reduceIte, Nat.reduceEqDiff, reduceCtorEq, AS, t3, t4, t5, t7, t10]
    exact ⟨⟨B.grown hg B.size (fun b hb => by cases hb; omega), C.grown hg C.size (fun b hb => by cases hb; omega), i + 1, _, rfl, by omega, oV2, by rw [List.length_set]; exact lV⟩, by omega⟩
  obtain rfl : i = L.length := by omega
  have hsub := osub _ V' lV oV
  have lD := tkl V' lV
  have hr := hr2.up C
  simp (maxSteps := 1000000) (disch := omega) only [WS, List.getElem_cons_zero, List.getElem_cons_succ, Option.isNone_some, Option.isNone_none, List.getD_cons_zero, List.getD_cons_succ, I.at, atL, atO, atP, evp, evs, retV, ↓reduceIte, Nat.reduceEqDiff, reduceCtorEq, AS, t3, t4, t5, t7, t10, hsub.Xlen, lD]
  refine X_bsl (zs := [xv]) (by rfl) (by rfl) fun s1 w4 o1 hB => ?_
  have oV := oV.up hB
  have hr := hr.up hB
  have hsub := hsub.up hB
  have B := B.trans (hB.mono B.size)
  clear hB
  have g1 : Rlw w4 s1 [xv] (fun _ => V') := ⟨o1.sl, fun j hj => by obtain rfl : j = 0 := by simpa using hj
                                                                   exact oV.sl, fun j _ => by omega, by simp⟩
  simp (maxSteps := 1000000) (disch := omega) only [WS, List.getElem_cons_zero, List.getElem_cons_succ, Option.isNone_some, Option.isNone_none, List.getD_cons_zero, List.getD_cons_succ, I.at, atL, atO, atP, evp, evs, retV, ↓reduceIte, Nat.reduceEqDiff, reduceCtorEq, AS, t3, t4, t5, t7]
  refine X_call0 ((culletlaw04_copies16_spec w4 s1 [xv] _ g1).mono ?_)
  rintro s2 w5 ⟨hB, hs2, lh2, g2⟩
  have oV := oV.up hB
  have hr := hr.up hB
  have hsub := hsub.up hB
  have B := B.trans (hB.mono B.size)
  clear hB
  generalize V'.take L.length = D at hsub lD
  simp (maxSteps := 1000000) (disch := omega) only [WS, List.getElem_cons_zero, List.getElem_cons_succ, Option.isNone_some, Option.isNone_none, List.getD_cons_zero, List.getD_cons_succ, I.at, atL, atO, atP, evp, evs, retV, ↓reduceIte, Nat.reduceEqDiff, reduceCtorEq, AS, t3, t4, t5, t7]
  refine X_call0 ((polys_Ring_w_Degree_spec w5 _ _ D hr hsub (by omega)).mono ?_)
  rintro _ w' ⟨rfl, rfl⟩
  simp (maxSteps := 1000000) (disch := omega) only [WS, List.getElem_cons_zero, List.getElem_cons_succ, Option.isNone_some, Option.isNone_none, List.getD_cons_zero, List.getD_cons_succ, I.at, atL, atO, atP, evp, evs, retV, ↓reduceIte, Nat.reduceEqDiff, reduceCtorEq, AS, t3, t4, t5, t7]
  refine X_call0 ((polys_Ring_w_Eval_spec w' _ _ D x hr hsub (by omega)).mono ?_)
  rintro _ w6 ⟨rfl, hB⟩
  have g2 := g2.up hB
  have oV := oV.up hB
  have hr := hr.up hB
  have hsub := hsub.up hB
  have B := B.trans (hB.mono B.size)
  clear hB
  simp (maxSteps := 1000000) (disch := omega) only [WS, List.getElem_cons_zero, List.getElem_cons_succ, Option.isNone_some, Option.isNone_none, List.getD_cons_zero, List.getD_cons_succ, I.at, atL, atO, atP, evp, evs, retV, ↓reduceIte, Nat.reduceEqDiff, reduceCtorEq, AS, t3, t4, t5, t7]
  refine X_call0 ((culletlaw04_high_spec _ _ D hsub (by omega)).mono ?_)
  rintro _ w' ⟨rfl, rfl⟩
  simp (maxSteps := 1000000) (disch := omega) only [WS, List.getElem_cons_zero, List.getElem_cons_succ, Option.isNone_some, Option.isNone_none, List.getD_cons_zero, List.getD_cons_succ, I.at, atL, atO, atP, evp, evs, retV, ↓reduceIte, Nat.reduceEqDiff, reduceCtorEq, AS, t3, t4, t5, t7, dt]
  refine X_call0 ((culletlaw04_horner_w_spec w' _ D x (by rw [em16_map]; exact hsub) (by omega)).mono ?_)
  rintro _ w7 ⟨rfl, hB⟩
  rw [em16_nat]
  have g2 := g2.up hB
  have oV := oV.up hB
  have hr := hr.up hB
  have hsub := hsub.up hB
  have B := B.trans (hB.mono B.size)
  clear hB
  simp (maxSteps := 1000000) (disch := omega) only [WS, List.getElem_cons_zero, List.getElem_cons_succ, Option.isNone_some, Option.isNone_none, List.getD_cons_zero, List.getD_cons_succ, I.at, atL, atO, atP, evp, evs, retV, ↓reduceIte, Nat.reduceEqDiff, reduceCtorEq, AS, t3, t4, t5, t7, dt]
  refine X_bsl (zs := [xv]) (by rfl) (by rfl) fun s3 w9 o3 hB => ?_
  have g2 := g2.up hB
  have oV := oV.up hB
  have B := B.trans (hB.mono B.size)
  clear hB
  have g3 : Rlw w9 s3 [xv] (fun _ => V') := ⟨o3.sl, fun j hj => by obtain rfl : j = 0 := by simpa using hj
                                                                   exact oV.sl, fun j _ => by omega, by simp⟩
  have g4 : Rlw w9 s2 hs2 (fun _ => V') := ⟨g2.top.sl, fun j hj => (g2.row j hj).sl, fun j _ => by omega, by rw [lh2]; simp⟩
  simp (maxSteps := 1000000) (disch := omega) only [WS, List.getElem_cons_zero, List.getElem_cons_succ, Option.isNone_some, Option.isNone_none, List.getD_cons_zero, List.getD_cons_succ, I.at, atL, atO, atP, evp, evs, retV, ↓reduceIte, Nat.reduceEqDiff, reduceCtorEq, AS, t3, t4, t5, t7]
  refine X_call0 ((culletlaw04_alike16_spec w9 s3 s2 [xv] hs2 _ g3 g4 lh2.symm).mono ?_)
  rintro _ w10 ⟨rfl, hB⟩
  have B := B.trans (hB.mono B.size)
  clear hB
  simp (maxSteps := 1000000) (disch := omega) only [WS, List.getElem_cons_zero, List.getElem_cons_succ, Option.isNone_some, Option.isNone_none, List.getD_cons_zero, List.getD_cons_succ, I.at, atL, atO, atP, evp, evs, retV, ↓reduceIte, Nat.reduceEqDiff, reduceCtorEq, AS]
  exact B
end Go.Proofs.Ytcdagkcchfibjaa.Fw
namespace Go.Proofs.Ytcdagkcchfibjaa.Fw
open Go Go.Fw
set_option maxHeartbeats 8000000 in
theorem culletlaw04_looks8_spec (w : World) (k n : Int) (fl : Bool) (F G : Value) (LF : List (El 16)) (x : El 16) (hF : Sl w F LF) (lF : LF.length ≤ 70368744175616) :
    CallV Try.prog 32 [.agg #[.int .i64 k, .bool fl, F, G, .int .u16 (x.v.toNat : Int), .int .i64 n]] w fun v w' => v = .bool true ∧ RowKit.Below w.heap.size w w' := by
  have dt : ∀ e : Int, decide (e = e) = true := fun e => decide_eq_true rfl
  refine run_culletlaw04_looks8 (by simp) ?_
  simp only [c_culletlaw04_looks8, WS, List.getElem_cons_zero, List.getElem_cons_succ, Option.isNone_some, Option.isNone_none, List.getD_cons_zero, List.getD_cons_succ, I.at, atL, atO, atP, evp, evs, retV, ↓reduceIte, Nat.reduceEqDiff, reduceCtorEq]
  refine X_box fun b w1 hro hlb hB => ?_
  have hro : Row w1 b [.int .i64 k, .bool fl, F, G, .int .u16 (x.v.toNat : Int), .int .i64 n] := hro
  have B := hB
  have hF := hF.up hB
  clear hB hlb
  simp (maxSteps := 1000000) (disch := omega) only [WS, List.getElem_cons_zero, List.getElem_cons_succ, Option.isNone_some, Option.isNone_none, List.getD_cons_zero, List.getD_cons_succ, I.at, atL, atO, atP, evp, evs, retV, ↓reduceIte, Nat.reduceEqDiff, reduceCtorEq, AS]
  refine X_call0 ((polys_Over8_spec w1).mono ?_)
  rintro r w2 ⟨hr, hB, -⟩
  have hF := hF.up hB
  have hro := hro.up hB
  have B := B.trans (hB.mono B.size)
  clear hB
  obtain ⟨bR, mvR, ivR, rfl, -, -⟩ := id hr
  have B2 := B.size
  have hr2 := hr
  have hro2 := hro
  generalize hL : LF.map lo8 = L
  have lL : L.length ≤ 70368744175616 := by rw [← hL]; rw [List.length_map]; exact lF
  simp (maxSteps := 1000000) (disch := omega) only [WS, List.getElem_cons_zero, List.getElem_cons_succ, Option.isNone_some, Option.isNone_none, List.getD_cons_zero, List.getD_cons_succ, I.at, atL, atO, atP, evp, evs, retV, ↓reduceIte, Nat.reduceEqDiff, reduceCtorEq, AS, hro.Xld (show 2 < _ by simp)]
  refine X_call0 ((culletlaw04_low_spec w2 F LF hF lF).mono ?_)
  rintro sl w2b ⟨ol, hB⟩
  rw [hL] at ol
  have hF := ol.sl
  have q2 := hB.size
  have hBC0 := hB
  have hr := hr.up hB
  have hro := hro.up hB
  have B := B.trans (hB.mono B.size)
  clear hB
  simp (maxSteps := 1000000) (disch := omega) only [WS, List.getElem_cons_zero, List.getElem_cons_succ, Option.isNone_some, Option.isNone_none, List.getD_cons_zero, List.getD_cons_succ, I.at, atL, atO, atP, evp, evs, retV, ↓reduceIte, Nat.reduceEqDiff, reduceCtorEq, AS]
  refine X_call0 ((culletlaw04_roomy8_spec _ _ L hF lL).mono ?_)
  rintro _ w3 ⟨hB, sv, rfl, oV⟩
  have lV : (L ++ mkb).length = L.length + 8 := by rw [List.length_append, mkb_len]
  have tV : (L ++ mkb).take L.length = L := by simp
  have q3 := hB.size
  have hBC := hB
  have hr := hr.up hB
  have hro := hro.up hB
  have B := B.trans (hB.mono B.size)
  clear hB
  have C := hBC0.trans (hBC.mono q2)
  obtain ⟨xv, rfl⟩ : ∃ x : Hd, sv = Cell.v x := ⟨hd sv, oV.sl.hd.1.symm⟩
  generalize L ++ mkb = V at oV lV tV
  have hle : ∀ V : List (El 8), V.length = L.length + 8 → L.length ≤ V.length := fun V h => by omega
  have tkl : ∀ V : List (El 8), V.length = L.length + 8 → (V.take L.length).length = L.length := fun V h => by rw [List.length_take]; omega
  have osub : ∀ {lo hi : Nat} (u : World) (V : List (El 8)), V.length = L.length + 8 → Seg lo hi u (Cell.v xv) V → Sl u (Fw.sub (Cell.v xv) 0 L.length) (V.take L.length) := fun u V h1 h2 => (h2.own.sub0 (hle V h1)).sl
  simp (maxSteps := 1000000) (disch := omega) only [WS, List.getElem_cons_zero, List.getElem_cons_succ, Option.isNone_some, Option.isNone_none, List.getD_cons_zero, List.getD_cons_succ, I.at, atL, atO, atP, evp, evs, retV, ↓reduceIte, Nat.reduceEqDiff, reduceCtorEq, AS]
  refine X_bsl (zs := [xv]) (by rfl) (by rfl) fun s1 w4 o1 hB => ?_
  have C := C.trans (hB.mono C.size)
  have oV := oV.up hB
  have hr := hr.up hB
  have hro := hro.up hB
  have B := B.trans (hB.mono B.size)
  clear hB
  have g1 : Rlb w4 s1 [xv] (fun _ => V) := ⟨o1.sl, fun j hj => by obtain rfl : j = 0 := by simpa using hj
                                                                  exact oV.sl, fun j _ => by omega, by simp⟩
  simp (maxSteps := 1000000) (disch := omega) only [WS, List.getElem_cons_zero, List.getElem_cons_succ, Option.isNone_some, Option.isNone_none, List.getD_cons_zero, List.getD_cons_succ, I.at, atL, atO, atP, evp, evs, retV, ↓reduceIte, Nat.reduceEqDiff, reduceCtorEq, AS]
  refine X_call0 ((culletlaw04_copies8_spec w4 s1 [xv] _ g1).mono ?_)
  rintro s2 w5 ⟨hB, hs2, lh2, g2⟩
  have C := C.trans (hB.mono C.size)
  have oV := oV.up hB
  have hr := hr.up hB
  have hro := hro.up hB
  have B := B.trans (hB.mono B.size)
  clear hB
  have hsub := osub w5 V lV oV
  rw [tV] at hsub
  simp (maxSteps := 1000000) (disch := omega) only [WS, List.getElem_cons_zero, List.getElem_cons_succ, Option.isNone_some, Option.isNone_none, List.getD_cons_zero, List.getD_cons_succ, I.at, atL, atO, atP, evp, evs, retV, ↓reduceIte, Nat.reduceEqDiff, reduceCtorEq, AS, hro.Xld (show 4 < _ by simp), show IntKind.u8.wrap (x.v.toNat : Int) = ((lo8 x).v.toNat : Int) from by rw [wrap_u8m, lo8_nat]]
  refine X_call0 ((polys_Ring_b_Degree_spec w5 _ _ L hr hsub lL).mono ?_)
  rintro _ w' ⟨rfl, rfl⟩
  simp (maxSteps := 1000000) (disch := omega) only [WS, List.getElem_cons_zero, List.getElem_cons_succ, Option.isNone_some, Option.isNone_none, List.getD_cons_zero, List.getD_cons_succ, I.at, atL, atO, atP, evp, evs, retV, ↓reduceIte, Nat.reduceEqDiff, reduceCtorEq, AS]
  refine X_call0 ((polys_Ring_b_Eval_spec w' _ _ L (lo8 x) hr hsub lL).mono ?_)
  rintro _ w6 ⟨rfl, hB⟩
  have C := C.trans (hB.mono C.size)
  have g2 := g2.up hB
  have oV := oV.up hB
  have hr := hr.up hB
  have hro := hro.up hB
  have hsub := hsub.up hB
  have B := B.trans (hB.mono B.size)
  clear hB
  simp (maxSteps := 1000000) (disch := omega) only [WS, List.getElem_cons_zero, List.getElem_cons_succ, Option.isNone_some, Option.isNone_none, List.getD_cons_zero, List.getD_cons_succ, I.at, atL, atO, atP, evp, evs, retV, ↓reduceIte, Nat.reduceEqDiff, reduceCtorEq, AS]
  refine X_call0 ((culletlaw04_up_spec _ _ L hsub (by omega)).mono ?_)
  rintro su1 w7 ⟨ou, hB⟩
  have C := C.trans (hB.mono C.size)
  have g2 := g2.up hB
  have oV := oV.up hB
  have hr := hr.up hB
  have hro := hro.up hB
  have hsub := hsub.up hB
  have B := B.trans (hB.mono B.size)
  clear hB
  simp (maxSteps := 1000000) (disch := omega) only [WS, List.getElem_cons_zero, List.getElem_cons_succ, Option.isNone_some, Option.isNone_none, List.getD_cons_zero, List.getD_cons_succ, I.at, atL, atO, atP, evp, evs, retV, ↓reduceIte, Nat.reduceEqDiff, reduceCtorEq, AS, dt]
  refine X_call0 ((culletlaw04_high_spec _ _ (L.map em8) ou.sl (by rw [List.length_map]; omega)).mono ?_)
  rintro _ w' ⟨rfl, rfl⟩
  rw [tln_em8]
  simp (maxSteps := 1000000) (disch := omega) only [WS, List.getElem_cons_zero, List.getElem_cons_succ, Option.isNone_some, Option.isNone_none, List.getD_cons_zero, List.getD_cons_succ, I.at, atL, atO, atP, evp, evs, retV, ↓reduceIte, Nat.reduceEqDiff, reduceCtorEq, AS, dt]
  refine X_call0 ((culletlaw04_up_spec _ _ L hsub (by omega)).mono ?_)
  rintro su2 w7 ⟨ou2, hB⟩
  have C := C.trans (hB.mono C.size)
  have g2 := g2.up hB
  have oV := oV.up hB
  have hr := hr.up hB
  have hro := hro.up hB
  have hsub := hsub.up hB
  have B := B.trans (hB.mono B.size)
  clear hB
  have ex : IntKind.u16.wrap ((lo8 x).v.toNat : Int) = ((em8 (lo8 x)).v.toNat : Int) := by rw [wrap_u16 _ (by have := (lo8 x).v.isLt; omega), em8_nat]
  simp (maxSteps := 1000000) (disch := omega) only [WS, List.getElem_cons_zero, List.getElem_cons_succ, Option.isNone_some, Option.isNone_none, List.getD_cons_zero, List.getD_cons_succ, I.at, atL, atO, atP, evp, evs, retV, ↓reduceIte, Nat.reduceEqDiff, reduceCtorEq, AS, dt, ex]
  refine X_call0 ((culletlaw04_horner_b_spec _ _ L (lo8 x) ou2.sl (by omega)).mono ?_)
  rintro _ w7 ⟨rfl, hB⟩
  have ey : IntKind.u8.wrap ((em8 (evl L (lo8 x))).v.toNat : Int) = ((evl L (lo8 x)).v.toNat : Int) := by rw [em8_nat, wrap_u8 _ (evl L (lo8 x)).v.isLt]
  have C := C.trans (hB.mono C.size)
  have g2 := g2.up hB
  have oV := oV.up hB
  have hr := hr.up hB
  have hro := hro.up hB
  have hsub := hsub.up hB
  have B := B.trans (hB.mono B.size)
  clear hB
  simp (maxSteps := 1000000) (disch := omega) only [WS, List.getElem_cons_zero, List.getElem_cons_succ, Option.isNone_some, Option.isNone_none, List.getD_cons_zero, List.getD_cons_succ, I.at, atL, atO, atP, evp, evs, retV, ↓reduceIte, Nat.reduceEqDiff, reduceCtorEq, AS, dt, ey]
  refine X_call0 ((polys_Ring_b_Eval_spec _ _ _ L (lo8 x) hr hsub lL).mono ?_)
  rintro _ w8 ⟨rfl, hB⟩
  have C := C.trans (hB.mono C.size)
  have g2 := g2.up hB
  have oV := oV.up hB
  have hr := hr.up hB
  have hro := hro.up hB
  have hsub := hsub.up hB
  have B := B.trans (hB.mono B.size)
  clear hB
  simp (maxSteps := 1000000) (disch := omega) only [WS, List.getElem_cons_zero, List.getElem_cons_succ, Option.isNone_some, Option.isNone_none, List.getD_cons_zero, List.getD_cons_succ, I.at, atL, atO, atP, evp, evs, retV, ↓reduceIte, Nat.reduceEqDiff, reduceCtorEq, AS, dt]
  refine X_bsl (zs := [xv]) (by rfl) (by rfl) fun s3 w9 o3 hB => ?_
  have C := C.trans (hB.mono C.size)
  have g2 := g2.up hB
  have oV := oV.up hB
  have hr := hr.up hB
  have hro := hro.up hB
  have hsub := hsub.up hB
  have B := B.trans (hB.mono B.size)
  clear hB
  have g3 : Rlb w9 s3 [xv] (fun _ => V) := ⟨o3.sl, fun j hj => by obtain rfl : j = 0 := by simpa using hj
                                                                  exact oV.sl, fun j _ => by omega, by simp⟩
  have g4 : Rlb w9 s2 hs2 (fun _ => V) := ⟨g2.top.sl, fun j hj => (g2.row j hj).sl, fun j _ => by omega, by rw [lh2]; simp⟩
  simp (maxSteps := 1000000) (disch := omega) only [WS, List.getElem_cons_zero, List.getElem_cons_succ, Option.isNone_some, Option.isNone_none, List.getD_cons_zero, List.getD_cons_succ, I.at, atL, atO, atP, evp, evs, retV, ↓reduceIte, Nat.reduceEqDiff, reduceCtorEq, AS]
  refine X_call0 ((culletlaw04_alike8_spec w9 s3 s2 [xv] hs2 _ g3 g4 lh2.symm).mono ?_)
  rintro _ w10 ⟨rfl, hB⟩
  have C := C.trans (hB.mono C.size)
  have oV := oV.up hB
  have B := B.trans (hB.mono B.size)
  clear hB
  clear hr hro hsub g1 g2 g3 g4 o1 o3
  simp (maxSteps := 1000000) (disch := omega) only [WS, List.getElem_cons_zero, List.getElem_cons_succ, Option.isNone_some, Option.isNone_none, List.getD_cons_zero, List.getD_cons_succ, I.at, atL, atO, atP, evp, evs, retV, ↓reduceIte, Nat.reduceEqDiff, reduceCtorEq, AS]
  refine loop_of (fun t u => t 3 = .pointer (some ⟨bR, 0, none⟩) ∧ t 4 = Cell.v xv ∧ t 5 = Fw.sub (Cell.v xv) 0 L.length ∧ t 7 = .int .u8 ((lo8 x).v.toNat : Int) ∧ RowKit.Below w.heap.size w u ∧ RowKit.Below w2.heap.size w2 u ∧ ∃ (i : Nat) (V : List (El 8)), t 10 = .int .i64 (i : Int) ∧ i ≤ L.length ∧ Seg w2b.heap.size w3.heap.size u (Cell.v xv) V ∧ V.length = L.length + 8)
    (fun t _ => L.length - (toI (t 10)).toNat) ⟨by simp only [WS, List.getElem_cons_zero, List.getElem_cons_succ, Option.isNone_some, Option.isNone_none, List.getD_cons_zero, List.getD_cons_succ, I.at, atL, atO, atP, evp, evs, retV, ↓reduceIte, Nat.reduceEqDiff, reduceCtorEq], by simp only [WS, List.getElem_cons_zero, List.getElem_cons_succ, Option.isNone_some, Option.isNone_none, List.getD_cons_zero, List.getD_cons_succ, I.at, atL, atO, atP, evp, evs, retV, ↓reduceIte, Nat.reduceEqDiff, reduceCtorEq], by simp only [WS, List.getElem_cons_zero, List.getElem_cons_succ, Option.isNone_some, Option.isNone_none, List.getD_cons_zero, List.getD_cons_succ, I.at, atL, atO, atP, evp, evs, retV, ↓reduceIte, Nat.reduceEqDiff, reduceCtorEq], by simp only [WS, List.getElem_cons_zero, List.getElem_cons_succ, Option.isNone_some, Option.isNone_none, List.getD_cons_zero, List.getD_cons_succ, I.at, atL, atO, atP, evp, evs, retV, ↓reduceIte, Nat.reduceEqDiff, reduceCtorEq], B, C, 0, V, rfl, by omega, oV, lV⟩ ?_
  clear B C oV lV tV
  rintro t w11 ⟨t3, t4, t5, t7, B, C, i, V', t10, hi, oV, lV⟩
  by_cases hil : i < L.length
  · have iV : i < V'.length := by omega
    have hsub := osub _ V' lV oV
    have hel : elP (Fw.sub (Cell.v xv) 0 L.length) i = elP (Cell.v xv) i := by rw [elP_sub oV.sl (show 0 < L.length by omega) (hle V' lV), Nat.zero_add]
    have hix := hsub.Xix (k := .i64) (i := i) (by rw [tkl V' lV]; exact hil) Try.prog
    rw [hel] at hix
    have e3 : (i : Int).tmod 3 = ((i % 3 : Nat) : Int) := tmod_nat i 3
    have hlt3 : i % 3 < 3 := Nat.mod_lt _ (by omega)
    have ey : IntKind.u8.wrap ((i % 3 : Nat) : Int) = ((mb (i % 3)).v.toNat : Int) := by rw [wrap_u8 _ (by omega), mb_v _ (by omega)]
    simp (maxSteps := 1000000) (disch := omega) only [WS, List.getElem_cons_zero, List.getElem_cons_succ, Option.isNone_some, Option.isNone_none, List.getD_cons_zero, List.getD_cons_succ, I.at, atL, atO, atP, evp, evs, retV, ↓reduceIte, Nat.reduceEqDiff, reduceCtorEq, AS, t3, t4, t5, t7, t10, hsub.Xlen, tkl V' lV, X_rem, show ((3 : Int) ≠ 0) = True from eq_true (by decide), e3, ey, hix]
    refine oV.Xst iV (mb (i % 3)) fun w12 c oV2 hg hc1 hc2 => ?_
    simp (maxSteps := 1000000) (disch := omega) only [WS, List.getElem_cons_zero, List.getElem_cons_succ, Option.isNone_some, Option.isNone_none, List.getD_cons_zero, List.getD_cons_succ, I.at, atL, atO, atP, evp, evs, retV, ↓reduceIte, Nat.reduceEqDiff, reduceCtorEq, AS, t3, t4, t5, t7, t10]
    exact ⟨⟨B.grown hg B.size (fun b hb => by cases hb; omega), C.grown hg C.size (fun b hb => by cases hb; omega), i + 1, _, rfl, by omega, oV2, by rw [List.length_set]; exact lV⟩, by omega⟩
  obtain rfl : i = L.length := by omega
  have hsub := osub _ V' lV oV
  have lD := tkl V' lV
  have hr := hr2.up C
  simp (maxSteps := 1000000) (disch := omega) only [WS, List.getElem_cons_zero, List.getElem_cons_succ, Option.isNone_some, Option.isNone_none, List.getD_cons_zero, List.getD_cons_succ, I.at, atL, atO, atP, evp, evs, retV, ↓reduceIte, Nat.reduceEqDiff, reduceCtorEq, AS, t3, t4, t5, t7, t10, hsub.Xlen, lD]
  refine X_bsl (zs := [xv]) (by rfl) (by rfl) fun s1 w4 o1 hB => ?_
  have oV := oV.up hB
  have hr := hr.up hB
  have hsub := hsub.up hB
  have B := B.trans (hB.mono B.size)
  clear hB
  have g1 : Rlb w4 s1 [xv] (fun _ => V') := ⟨o1.sl, fun j hj => by obtain rfl : j = 0 := by simpa using hj
                                                                   exact oV.sl, fun j _ => by omega, by simp⟩
  simp (maxSteps := 1000000) (disch := omega) only [WS, List.getElem_cons_zero, List.getElem_cons_succ, Option.isNone_some, Option.isNone_none, List.getD_cons_zero, List.getD_cons_succ, I.at, atL, atO, atP, evp, evs, retV, ↓reduceIte, Nat.reduceEqDiff, reduceCtorEq, AS, t3, t4, t5, t7]
  refine X_call0 ((culletlaw04_copies8_spec w4 s1 [xv] _ g1).mono ?_)
  rintro s2 w5 ⟨hB, hs2, lh2, g2⟩
  have oV := oV.up hB
  have hr := hr.up hB
  have hsub := hsub.up hB
  have B := B.trans (hB.mono B.size)
  clear hB
  generalize V'.take L.length = D at hsub lD
  simp (maxSteps := 1000000) (disch := omega) only [WS, List.getElem_cons_zero, List.getElem_cons_succ, Option.isNone_some, Option.isNone_none, List.getD_cons_zero, List.getD_cons_succ, I.at, atL, atO, atP, evp, evs, retV, ↓reduceIte, Nat.reduceEqDiff, reduceCtorEq, AS, t3, t4, t5, t7]
  refine X_call0 ((polys_Ring_b_Degree_spec w5 _ _ D hr hsub (by omega)).mono ?_)
  rintro _ w' ⟨rfl, rfl⟩
  simp (maxSteps := 1000000) (disch := omega) only [WS, List.getElem_cons_zero, List.getElem_cons_succ, Option.isNone_some, Option.isNone_none, List.getD_cons_zero, List.getD_cons_succ, I.at, atL, atO, atP, evp, evs, retV, ↓reduceIte, Nat.reduceEqDiff, reduceCtorEq, AS, t3, t4, t5, t7]
  refine X_call0 ((polys_Ring_b_Eval_spec w' _ _ D (lo8 x) hr hsub (by omega)).mono ?_)
  rintro _ w6 ⟨rfl, hB⟩
  have g2 := g2.up hB
  have oV := oV.up hB
  have hr := hr.up hB
  have hsub := hsub.up hB
  have B := B.trans (hB.mono B.size)
  clear hB
  simp (maxSteps := 1000000) (disch := omega) only [WS, List.getElem_cons_zero, List.getElem_cons_succ, Option.isNone_some, Option.isNone_none, List.getD_cons_zero, List.getD_cons_succ, I.at, atL, atO, atP, evp, evs, retV, ↓reduceIte, Nat.reduceEqDiff, reduceCtorEq, AS, t3, t4, t5, t7]
  refine X_call0 ((culletlaw04_up_spec _ _ D hsub (by omega)).mono ?_)
  rintro su1 w7 ⟨ou, hB⟩
  have g2 := g2.up hB
  have oV := oV.up hB
  have hr := hr.up hB
  have hsub := hsub.up hB
  have B := B.trans (hB.mono B.size)
  clear hB
  simp (maxSteps := 1000000) (disch := omega) only [WS, List.getElem_cons_zero, List.getElem_cons_succ, Option.isNone_some, Option.isNone_none, List.getD_cons_zero, List.getD_cons_succ, I.at, atL, atO, atP, evp, evs, retV, ↓reduceIte, Nat.reduceEqDiff, reduceCtorEq, AS, t3, t4, t5, t7, dt]
  refine X_call0 ((culletlaw04_high_spec _ _ (D.map em8) ou.sl (by rw [List.length_map]; omega)).mono ?_)
  rintro _ w' ⟨rfl, rfl⟩
  rw [tln_em8]
  simp (maxSteps := 1000000) (disch := omega) only [WS, List.getElem_cons_zero, List.getElem_cons_succ, Option.isNone_some, Option.isNone_none, List.getD_cons_zero, List.getD_cons_succ, I.at, atL, atO, atP, evp, evs, retV, ↓reduceIte, Nat.reduceEqDiff, reduceCtorEq, AS, t3, t4, t5, t7, dt]
  refine X_call0 ((culletlaw04_up_spec _ _ D hsub (by omega)).mono ?_)
  rintro su2 w7 ⟨ou2, hB⟩
  have g2 := g2.up hB
  have oV := oV.up hB
  have hr := hr.up hB
  have hsub := hsub.up hB
  have B := B.trans (hB.mono B.size)
  clear hB
  have ex : IntKind.u16.wrap ((lo8 x).v.toNat : Int) = ((em8 (lo8 x)).v.toNat : Int) := by rw [wrap_u16 _ (by have := (lo8 x).v.isLt; omega), em8_nat]
  simp (maxSteps := 1000000) (disch := omega) only [WS, List.getElem_cons_zero, List.getElem_cons_succ, Option.isNone_some, Option.isNone_none, List.getD_cons_zero, List.getD_cons_succ, I.at, atL, atO, atP, evp, evs, retV, ↓reduceIte, Nat.reduceEqDiff, reduceCtorEq, AS, t3, t4, t5, t7, dt, ex]
  refine X_call0 ((culletlaw04_horner_b_spec _ _ D (lo8 x) ou2.sl (by omega)).mono ?_)
  rintro _ w7 ⟨rfl, hB⟩
  have ey : IntKind.u8.wrap ((em8 (evl D (lo8 x))).v.toNat : Int) = ((evl D (lo8 x)).v.toNat : Int) := by rw [em8_nat, wrap_u8 _ (evl D (lo8 x)).v.isLt]
  have g2 := g2.up hB
  have oV := oV.up hB
  have hr := hr.up hB
  have hsub := hsub.up hB
  have B := B.trans (hB.mono B.size)
  clear hB
  simp (maxSteps := 1000000) (disch := omega) only [WS, List.getElem_cons_zero, List.getElem_cons_succ, Option.isNone_some, Option.isNone_none, List.getD_cons_zero, List.getD_cons_succ, I.at, atL, atO, atP, evp, evs, retV, ↓reduceIte, Nat.reduceEqDiff, reduceCtorEq, AS, t3, t4, t5, t7, dt, ey]
  refine X_bsl (zs := [xv]) (by rfl) (by rfl) fun s3 w9 o3 hB => ?_
  have g2 := g2.up hB
  have oV := oV.up hB
  have B := B.trans (hB.mono B.size)
  clear hB
  have g3 : Rlb w9 s3 [xv] (fun _ => V') := ⟨o3.sl, fun j hj => by obtain rfl : j = 0 := by simpa using hj
                                                                   exact oV.sl, fun j _ => by omega, by simp⟩
  have g4 : Rlb w9 s2 hs2 (fun _ => V') := ⟨g2.top.sl, fun j hj => (g2.row j hj).sl, fun j _ => by omega, by rw [lh2]; simp⟩
  simp (maxSteps := 1000000) (disch := omega) only [WS, List.getElem_cons_zero, List.getElem_cons_succ, Option.isNone_some, Option.isNone_none, List.getD_cons_zero, List.getD_cons_succ, I.at, atL, atO, atP, evp, evs, retV, ↓reduceIte, Nat.reduceEqDiff, reduceCtorEq, AS, t3, t4, t5, t7]
  refine X_call0 ((culletlaw04_alike8_spec w9 s3 s2 [xv] hs2 _ g3 g4 lh2.symm).mono ?_)
  rintro _ w10 ⟨rfl, hB⟩
  have B := B.trans (hB.mono B.size)
  clear hB
  simp (maxSteps := 1000000) (disch := omega) only [WS, List.getElem_cons_zero, List.getElem_cons_succ, Option.isNone_some, Option.isNone_none, List.getD_cons_zero, List.getD_cons_succ, I.at, atL, atO, atP, evp, evs, retV, ↓reduceIte, Nat.reduceEqDiff, reduceCtorEq, AS]
  exact B
end Go.Proofs.Ytcdagkcchfibjaa.Fw
