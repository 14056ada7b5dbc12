import Derived.Test.YtcnabolainmaeaaProg
import Derived.Test.YtcnabolainmaeaaFwTT
import Derived.Test.YtcnabolainmaeaaSS13nT
import Derived.Test.YtcnabolainmaeaaGfOT
set_option linter.all false
set_option linter.unusedVariables false
set_option linter.unusedSimpArgs false
set_option maxRecDepth 100000
set_option maxHeartbeats 1000000
namespace Go.Proofs.Ytcnabolainmaeaa.Fw
open Go Go.Fw Go.Proofs
attribute [local irreducible] stepI
def c_culletref04_Vanishing : C := .seq (.ops [⟨0, (some 4), none, .mov (.c (.slice none 0 0)), []⟩, ⟨1, (some 5), none, .mov (.c (.int .i64 0)), []⟩]) (.seq (.seq (.ops [⟨0, (some 6), none, .mov (.t 1), []⟩, ⟨1, (some 7), none, .len (.t 6), []⟩, ⟨2, (some 8), none, .bin .gtr (.t 7) (.c (.int .i64 1024)), []⟩]) (.ite (.t 8) (.seq (.ops [⟨0, (some 4), none, .mov (.c (.slice none 0 0)), []⟩, ⟨1, (some 5), none, .mov (.c (.int .i64 5)), []⟩]) .ret) .skip)) (.seq (.ops [⟨0, (some 9), none, .mov (.t 0), []⟩, ⟨1, (some 10), none, .mov (.t 1), []⟩, ⟨2, (some 11), none, .call (.c (.func (.func 70) #[] #[])) [.t 9, .t 10], []⟩, ⟨3, (some 4), none, .mov (.t 11), []⟩, ⟨4, (some 5), none, .mov (.c (.int .i64 0)), []⟩]) .ret))
attribute [irreducible] c_culletref04_Vanishing
theorem run_culletref04_Vanishing {args : List Value} {w : World} {K : Value → World → Prop} (hn : args.length ≤ 12) (h : WP Try.prog c_culletref04_Vanishing (endQ [.t 4, .t 5] K) (initT args) w) : CallV Try.prog 68 args w K :=
  call_of follows Try.func68 (by kernel_rfl) (by kernel_rfl) hn h
def c_culletref04_Mul : C := .seq (.ops [⟨0, (some 6), none, .mov (.c (.slice none 0 0)), []⟩, ⟨1, (some 7), none, .mov (.c (.int .i64 0)), []⟩]) (.seq (.seq (.ops [⟨0, (some 8), none, .mov (.t 1), []⟩, ⟨1, (some 9), none, .len (.t 8), []⟩, ⟨2, (some 10), none, .bin .gtr (.t 9) (.c (.int .i64 1024)), []⟩, ⟨3, (some 11), none, .mov (.t 10), []⟩, ⟨4, (some 12), (some (11, false)), .mov (.t 2), []⟩, ⟨5, (some 13), (some (11, false)), .len (.t 12), []⟩, ⟨6, (some 14), (some (11, false)), .bin .gtr (.t 13) (.c (.int .i64 1024)), []⟩, ⟨7, (some 15), none, .pick (.t 11) (.c (.bool true)) (.t 14), []⟩]) (.ite (.t 15) (.seq (.ops [⟨0, (some 6), none, .mov (.c (.slice none 0 0)), []⟩, ⟨1, (some 7), none, .mov (.c (.int .i64 5)), []⟩]) .ret) .skip)) (.seq (.ops [⟨0, (some 16), none, .mov (.t 0), []⟩, ⟨1, (some 17), none, .mov (.t 1), []⟩, ⟨2, (some 18), none, .mov (.t 2), []⟩, ⟨3, (some 19), none, .call (.c (.func (.func 71) #[] #[])) [.t 16, .t 17, .t 18], []⟩, ⟨4, (some 6), none, .mov (.t 19), []⟩, ⟨5, (some 7), none, .mov (.c (.int .i64 0)), []⟩]) .ret))
attribute [irreducible] c_culletref04_Mul
theorem run_culletref04_Mul {args : List Value} {w : World} {K : Value → World → Prop} (hn : args.length ≤ 20) (h : WP Try.prog c_culletref04_Mul (endQ [.t 6, .t 7] K) (initT args) w) : CallV Try.prog 69 args w K :=
  call_of follows Try.func69 (by kernel_rfl) (by kernel_rfl) hn h
def c_culletref04_vanishing : C := .seq (.ops [⟨0, (some 4), none, .mov (.c (.slice none 0 0)), []⟩]) (.seq (.ops [⟨0, (some 9), none, .bsl 22 1 [.int .u16 0] [(0, (1, .c (.int .u16 1)))], []⟩, ⟨1, (some 5), none, .mov (.t 9), []⟩]) (.seq (.seq (.ops [⟨0, (some 6), none, .mov (.c (.int .i64 0)), []⟩]) (.block 0 (.loop (.seq (.seq (.ops [⟨0, (some 10), none, .mov (.t 6), []⟩, ⟨1, (some 11), none, .mov (.t 1), []⟩, ⟨2, (some 12), none, .len (.t 11), []⟩, ⟨3, (some 13), none, .bin .lss (.t 10) (.t 12), []⟩]) (.ite (.t 13) .skip (.exit 0))) (.seq (.block 1 (.seq (.ops [⟨0, (some 16), none, .mov (.t 5), []⟩, ⟨1, (some 17), none, .len (.t 16), []⟩, ⟨2, (some 18), none, .bin .add (.t 17) (.c (.int .i64 1)), []⟩, ⟨3, (some 19), none, .mks 22 2 [.int .u16 0] (.t 18) (.t 18), []⟩, ⟨4, (some 7), none, .mov (.t 19), []⟩]) (.seq (.seq (.ops [⟨0, (some 8), none, .mov (.c (.int .i64 0)), []⟩]) (.block 2 (.loop (.seq (.seq (.ops [⟨0, (some 20), none, .mov (.t 8), []⟩, ⟨1, (some 21), none, .mov (.t 5), []⟩, ⟨2, (some 22), none, .len (.t 21), []⟩, ⟨3, (some 23), none, .bin .lss (.t 20) (.t 22), []⟩]) (.ite (.t 23) .skip (.exit 2))) (.seq (.block 3 (.seq (.dops [⟨0, (some 26), none, .mov (.t 7), []⟩, ⟨1, (some 27), none, .mov (.t 8), []⟩, ⟨2, (some 28), none, .bin .add (.t 27) (.c (.int .i64 1)), []⟩, ⟨3, (some 29), none, .mov (.t 7), []⟩, ⟨4, (some 30), none, .mov (.t 8), []⟩, ⟨5, (some 31), none, .bin .add (.t 30) (.c (.int .i64 1)), []⟩, ⟨6, (some 32), none, .ixs 1 (.t 29) (.t 31), []⟩, ⟨7, (some 33), none, .ld (.t 32), []⟩, ⟨8, (some 34), none, .mov (.t 5), []⟩, ⟨9, (some 35), none, .mov (.t 8), []⟩, ⟨10, (some 36), none, .ixs 1 (.t 34) (.t 35), []⟩, ⟨11, (some 37), none, .ld (.t 36), []⟩, ⟨12, (some 38), none, .bin .xor (.t 33) (.t 37), []⟩, ⟨13, (some 39), none, .ixs 1 (.t 26) (.t 28), []⟩, ⟨14, none, none, .st (.t 39) (.t 38), []⟩]) (.dops [⟨0, (some 40), none, .mov (.t 7), []⟩, ⟨1, (some 41), none, .mov (.t 8), []⟩, ⟨2, (some 42), none, .mov (.t 7), []⟩, ⟨3, (some 43), none, .mov (.t 8), []⟩, ⟨4, (some 44), none, .ixs 1 (.t 42) (.t 43), []⟩, ⟨5, (some 45), none, .ld (.t 44), []⟩, ⟨6, (some 46), none, .mov (.t 0), []⟩, ⟨7, (some 47), none, .mov (.t 5), []⟩, ⟨8, (some 48), none, .mov (.t 8), []⟩, ⟨9, (some 49), none, .ixs 1 (.t 47) (.t 48), []⟩, ⟨10, (some 50), none, .ld (.t 49), []⟩, ⟨11, (some 51), none, .mov (.t 1), []⟩, ⟨12, (some 52), none, .mov (.t 6), []⟩, ⟨13, (some 53), none, .ixs 1 (.t 51) (.t 52), []⟩, ⟨14, (some 54), none, .ld (.t 53), []⟩, ⟨15, (some 55), none, .call (.c (.func (.func 72) #[] #[])) [.t 46, .t 50, .t 54], [5]⟩, ⟨16, (some 56), none, .bin .xor (.t 45) (.t 55), []⟩, ⟨17, (some 57), none, .ixs 1 (.t 40) (.t 41), []⟩, ⟨18, none, none, .st (.t 57) (.t 56), []⟩]))) (.ops [⟨0, (some 24), none, .mov (.t 8), []⟩, ⟨1, (some 25), none, .bin .add (.t 24) (.c (.int .i64 1)), []⟩, ⟨2, (some 8), none, .mov (.t 25), []⟩])))))) (.ops [⟨0, (some 58), none, .mov (.t 7), []⟩, ⟨1, (some 5), none, .mov (.t 58), []⟩])))) (.ops [⟨0, (some 14), none, .mov (.t 6), []⟩, ⟨1, (some 15), none, .bin .add (.t 14) (.c (.int .i64 1)), []⟩, ⟨2, (some 6), none, .mov (.t 15), []⟩])))))) (.seq (.ops [⟨0, (some 59), none, .mov (.t 5), []⟩, ⟨1, (some 4), none, .mov (.t 59), []⟩]) .ret)))
attribute [irreducible] c_culletref04_vanishing
theorem run_culletref04_vanishing {args : List Value} {w : World} {K : Value → World → Prop} (hn : args.length ≤ 60) (h : WP Try.prog c_culletref04_vanishing (endQ [.t 4] K) (initT args) w) : CallV Try.prog 70 args w K :=
  call_of follows Try.func70 (by kernel_rfl) (by kernel_rfl) hn h
def c_culletref04_product : C := .seq (.ops [⟨0, (some 6), none, .mov (.c (.slice none 0 0)), []⟩]) (.seq (.ops [⟨0, (some 10), none, .mov (.t 1), []⟩, ⟨1, (some 11), none, .len (.t 10), []⟩, ⟨2, (some 12), none, .mov (.t 2), []⟩, ⟨3, (some 13), none, .len (.t 12), []⟩, ⟨4, (some 14), none, .bin .add (.t 11) (.t 13), []⟩, ⟨5, (some 15), none, .mks 22 2 [.int .u16 0] (.t 14) (.t 14), []⟩, ⟨6, (some 7), none, .mov (.t 15), []⟩]) (.seq (.seq (.ops [⟨0, (some 8), none, .mov (.c (.int .i64 0)), []⟩]) (.block 0 (.loop (.seq (.seq (.ops [⟨0, (some 16), none, .mov (.t 8), []⟩, ⟨1, (some 17), none, .mov (.t 1), []⟩, ⟨2, (some 18), none, .len (.t 17), []⟩, ⟨3, (some 19), none, .bin .lss (.t 16) (.t 18), []⟩]) (.ite (.t 19) .skip (.exit 0))) (.seq (.block 1 (.seq (.ops [⟨0, (some 22), none, .mov (.t 1), []⟩, ⟨1, (some 23), none, .mov (.t 8), []⟩, ⟨2, (some 24), none, .ixs 1 (.t 22) (.t 23), []⟩, ⟨3, (some 25), none, .ld (.t 24), []⟩, ⟨4, (some 26), none, .bin .neq (.t 25) (.c (.int .u16 0)), []⟩]) (.ite (.t 26) (.seq (.ops [⟨0, (some 9), none, .mov (.c (.int .i64 0)), []⟩]) (.block 2 (.loop (.seq (.seq (.ops [⟨0, (some 27), none, .mov (.t 9), []⟩, ⟨1, (some 28), none, .mov (.t 2), []⟩, ⟨2, (some 29), none, .len (.t 28), []⟩, ⟨3, (some 30), none, .bin .lss (.t 27) (.t 29), []⟩]) (.ite (.t 30) .skip (.exit 2))) (.seq (.block 3 (.dops [⟨0, (some 33), none, .mov (.t 7), []⟩, ⟨1, (some 34), none, .mov (.t 8), []⟩, ⟨2, (some 35), none, .mov (.t 9), []⟩, ⟨3, (some 36), none, .bin .add (.t 34) (.t 35), []⟩, ⟨4, (some 37), none, .mov (.t 7), []⟩, ⟨5, (some 38), none, .mov (.t 8), []⟩, ⟨6, (some 39), none, .mov (.t 9), []⟩, ⟨7, (some 40), none, .bin .add (.t 38) (.t 39), []⟩, ⟨8, (some 41), none, .ixs 1 (.t 37) (.t 40), []⟩, ⟨9, (some 42), none, .ld (.t 41), []⟩, ⟨10, (some 43), none, .mov (.t 0), []⟩, ⟨11, (some 44), none, .mov (.t 1), []⟩, ⟨12, (some 45), none, .mov (.t 8), []⟩, ⟨13, (some 46), none, .ixs 1 (.t 44) (.t 45), []⟩, ⟨14, (some 47), none, .ld (.t 46), []⟩, ⟨15, (some 48), none, .mov (.t 2), []⟩, ⟨16, (some 49), none, .mov (.t 9), []⟩, ⟨17, (some 50), none, .ixs 1 (.t 48) (.t 49), []⟩, ⟨18, (some 51), none, .ld (.t 50), []⟩, ⟨19, (some 52), none, .call (.c (.func (.func 72) #[] #[])) [.t 43, .t 47, .t 51], [9]⟩, ⟨20, (some 53), none, .bin .xor (.t 42) (.t 52), []⟩, ⟨21, (some 54), none, .ixs 1 (.t 33) (.t 36), []⟩, ⟨22, none, none, .st (.t 54) (.t 53), []⟩])) (.ops [⟨0, (some 31), none, .mov (.t 9), []⟩, ⟨1, (some 32), none, .bin .add (.t 31) (.c (.int .i64 1)), []⟩, ⟨2, (some 9), none, .mov (.t 32), []⟩])))))) .skip))) (.ops [⟨0, (some 20), none, .mov (.t 8), []⟩, ⟨1, (some 21), none, .bin .add (.t 20) (.c (.int .i64 1)), []⟩, ⟨2, (some 8), none, .mov (.t 21), []⟩])))))) (.seq (.ops [⟨0, (some 55), none, .mov (.t 7), []⟩, ⟨1, (some 56), none, .call (.c (.func (.func 73) #[] #[])) [.t 55], []⟩, ⟨2, (some 6), none, .mov (.t 56), []⟩]) .ret)))
attribute [irreducible] c_culletref04_product
theorem run_culletref04_product {args : List Value} {w : World} {K : Value → World → Prop} (hn : args.length ≤ 57) (h : WP Try.prog c_culletref04_product (endQ [.t 6] K) (initT args) w) : CallV Try.prog 71 args w K :=
  call_of follows Try.func71 (by kernel_rfl) (by kernel_rfl) hn h
def c_culletref04_times : C := .seq (.ops [⟨0, (some 6), none, .mov (.c (.int .u16 0)), []⟩]) (.seq (.seq (.ops [⟨0, (some 7), none, .mov (.t 1), []⟩, ⟨1, (some 8), none, .bin .eql (.t 7) (.c (.int .u16 0)), []⟩, ⟨2, (some 9), none, .mov (.t 8), []⟩, ⟨3, (some 10), (some (9, false)), .mov (.t 2), []⟩, ⟨4, (some 11), (some (9, false)), .bin .eql (.t 10) (.c (.int .u16 0)), []⟩, ⟨5, (some 12), none, .pick (.t 9) (.c (.bool true)) (.t 11), []⟩]) (.ite (.t 12) (.seq (.ops [⟨0, (some 6), none, .mov (.c (.int .u16 0)), []⟩]) .ret) .skip)) (.seq (.seq (.ops [⟨0, (some 13), none, .mov (.t 0), []⟩]) (.ite (.t 13) (.seq (.ops [⟨0, (some 14), none, .mov (.t 1), []⟩, ⟨1, (some 15), none, .mov (.t 2), []⟩, ⟨2, (some 16), none, .call (.c (.func (.func 61) #[] #[])) [.t 14, .t 15], []⟩, ⟨3, (some 6), none, .mov (.t 16), []⟩]) .ret) .skip)) (.seq (.ops [⟨0, (some 17), none, .mov (.t 1), []⟩, ⟨1, (some 18), none, .cnv .u8 (.t 17), []⟩, ⟨2, (some 19), none, .mov (.t 2), []⟩, ⟨3, (some 20), none, .cnv .u8 (.t 19), []⟩, ⟨4, (some 21), none, .call (.c (.func (.func 74) #[] #[])) [.t 18, .t 20], []⟩, ⟨5, (some 22), none, .cnv .u16 (.t 21), []⟩, ⟨6, (some 6), none, .mov (.t 22), []⟩]) .ret)))
attribute [irreducible] c_culletref04_times
theorem run_culletref04_times {args : List Value} {w : World} {K : Value → World → Prop} (hn : args.length ≤ 23) (h : WP Try.prog c_culletref04_times (endQ [.t 6] K) (initT args) w) : CallV Try.prog 72 args w K :=
  call_of follows Try.func72 (by kernel_rfl) (by kernel_rfl) hn h
def c_culletref04_Trim : C := .seq (.ops [⟨0, (some 2), none, .mov (.c (.slice none 0 0)), []⟩]) (.seq (.ops [⟨0, (some 5), none, .mov (.t 0), []⟩, ⟨1, (some 6), none, .len (.t 5), []⟩, ⟨2, (some 3), none, .mov (.t 6), []⟩]) (.seq (.block 0 (.loop (.seq (.seq (.ops [⟨0, (some 7), none, .mov (.t 3), []⟩, ⟨1, (some 8), none, .bin .gtr (.t 7) (.c (.int .i64 0)), []⟩, ⟨2, (some 9), none, .mov (.t 8), []⟩, ⟨3, (some 10), (some (9, true)), .mov (.t 0), []⟩, ⟨4, (some 11), (some (9, true)), .mov (.t 3), []⟩, ⟨5, (some 12), (some (9, true)), .bin .sub (.t 11) (.c (.int .i64 1)), []⟩, ⟨6, (some 13), (some (9, true)), .ixs 1 (.t 10) (.t 12), []⟩, ⟨7, (some 14), (some (9, true)), .ld (.t 13), []⟩, ⟨8, (some 15), (some (9, true)), .bin .eql (.t 14) (.c (.int .u16 0)), []⟩, ⟨9, (some 16), none, .pick (.t 9) (.t 15) (.c (.bool false)), []⟩]) (.ite (.t 16) .skip (.exit 0))) (.block 1 (.ops [⟨0, (some 17), none, .mov (.t 3), []⟩, ⟨1, (some 18), none, .bin .sub (.t 17) (.c (.int .i64 1)), []⟩, ⟨2, (some 3), none, .mov (.t 18), []⟩]))))) (.seq (.ops [⟨0, (some 19), none, .mov (.t 3), []⟩, ⟨1, (some 20), none, .mks 22 2 [.int .u16 0] (.t 19) (.t 19), []⟩, ⟨2, (some 4), none, .mov (.t 20), []⟩]) (.seq (.ops [⟨0, (some 21), none, .mov (.t 4), []⟩, ⟨1, (some 22), none, .mov (.t 0), []⟩, ⟨2, (some 23), none, .cpy 1 (.t 21) (.t 22), []⟩]) (.seq (.ops [⟨0, (some 24), none, .mov (.t 4), []⟩, ⟨1, (some 2), none, .mov (.t 24), []⟩]) .ret)))))
attribute [irreducible] c_culletref04_Trim
theorem run_culletref04_Trim {args : List Value} {w : World} {K : Value → World → Prop} (hn : args.length ≤ 25) (h : WP Try.prog c_culletref04_Trim (endQ [.t 2] K) (initT args) w) : CallV Try.prog 73 args w K :=
  call_of follows Try.func73 (by kernel_rfl) (by kernel_rfl) hn h
end Go.Proofs.Ytcnabolainmaeaa.Fw
namespace Go.Proofs.Ytcnabolainmaeaa.Fw
open Go Go.Fw
theorem culletref04_times_w_spec (w : World) (a b : El 16) : CallV Try.prog 72 [.bool true, .int .u16 (a.v.toNat : Int), .int .u16 (b.v.toNat : Int)] w fun v w' => v = .int .u16 ((a * b).v.toNat : Int) ∧ w' = w := by
  refine run_culletref04_times (by simp) ?_
  simp only [c_culletref04_times, WS, List.getElem_cons_zero, List.getElem_cons_succ, Option.isNone_some, Option.isNone_none, List.getD_cons_zero, List.getD_cons_succ, I.at, atL, atO, atP, evp, evs, retV, ↓reduceIte, Nat.reduceEqDiff, reduceCtorEq]
  by_cases ha : a = 0
  · have d1 : decide ((a.v.toNat : Int) = 0) = true := decide_eq_true ((el_zero _).mpr ha)
    have e : (0 : Int) = ((a * b).v.toNat : Int) := by rw [ha, El.zero_mul]; rfl
    simp only [WS, List.getElem_cons_zero, List.getElem_cons_succ, Option.isNone_some, Option.isNone_none, List.getD_cons_zero, List.getD_cons_succ, I.at, atL, atO, atP, evp, evs, retV, ↓reduceIte, Nat.reduceEqDiff, reduceCtorEq, d1]
    exact congrArg (Value.int .u16) e
  have d1 : decide ((a.v.toNat : Int) = 0) = false := decide_eq_false (fun e => ha ((el_zero _).mp e))
  by_cases hb : b = 0
  · have d2 : decide ((b.v.toNat : Int) = 0) = true := decide_eq_true ((el_zero _).mpr hb)
    have e : (0 : Int) = ((a * b).v.toNat : Int) := by rw [hb, El.mul_zero]; rfl
    simp only [WS, List.getElem_cons_zero, List.getElem_cons_succ, Option.isNone_some, Option.isNone_none, List.getD_cons_zero, List.getD_cons_succ, I.at, atL, atO, atP, evp, evs, retV, ↓reduceIte, Nat.reduceEqDiff, reduceCtorEq, d1, d2]
    exact congrArg (Value.int .u16) e
  have d2 : decide ((b.v.toNat : Int) = 0) = false := decide_eq_false (fun e => hb ((el_zero _).mp e))
  simp only [WS, List.getElem_cons_zero, List.getElem_cons_succ, Option.isNone_some, Option.isNone_none, List.getD_cons_zero, List.getD_cons_succ, I.at, atL, atO, atP, evp, evs, retV, ↓reduceIte, Nat.reduceEqDiff, reduceCtorEq, d1, d2]
  refine X_call0 ((culletref03_Mul_spec w a b).mono ?_)
  rintro _ w' ⟨rfl, rfl⟩
  simp only [WS, List.getElem_cons_zero, List.getElem_cons_succ, Option.isNone_some, Option.isNone_none, List.getD_cons_zero, List.getD_cons_succ, I.at, atL, atO, atP, evp, evs, retV, ↓reduceIte, Nat.reduceEqDiff, reduceCtorEq]
theorem culletref04_Trim_spec (w : World) (s : Value) (l : List (El 16)) (h : Sl w s l) (hb : l.length ≤ 70368744175616) : CallV Try.prog 73 [s] w fun v w' => Ow w.heap.size w' v (tr l) ∧ RowKit.Below w.heap.size w w' := by
  have hle := tln_le l
  refine run_culletref04_Trim (by simp) ?_
  simp only [c_culletref04_Trim, WS, List.getElem_cons_zero, List.getElem_cons_succ, Option.isNone_some, Option.isNone_none, List.getD_cons_zero, List.getD_cons_succ, I.at, atL, atO, atP, evp, evs, retV, ↓reduceIte, Nat.reduceEqDiff, reduceCtorEq, h.Xlen]
  refine loop_of (fun t w' => w' = w ∧ t 0 = s ∧ ∃ k : Nat, t 3 = .int .i64 (k : Int) ∧ tln l ≤ k ∧ k ≤ l.length) (fun t _ => (toI (t 3)).toNat) ⟨rfl, by simp only [WS, List.getElem_cons_zero, List.getElem_cons_succ, Option.isNone_some, Option.isNone_none, List.getD_cons_zero, List.getD_cons_succ, I.at, atL, atO, atP, evp, evs, retV, ↓reduceIte, Nat.reduceEqDiff, reduceCtorEq], l.length, rfl, hle, Nat.le_refl _⟩ ?_
  rintro t w' ⟨rfl, t0, k, t3, hk, hkl⟩
  have fin : ∀ (hk' : k = tln l), True := fun _ => trivial
  by_cases hk0 : k = 0
  · subst hk0
    have hz : tln l = 0 := by omega
    have htr : tr l = [] := List.eq_nil_of_length_eq_zero (by rw [tr_len, hz])
    simp (maxSteps := 1000000) (disch := omega) only [WS, List.getElem_cons_zero, List.getElem_cons_succ, Option.isNone_some, Option.isNone_none, List.getD_cons_zero, List.getD_cons_succ, I.at, atL, atO, atP, evp, evs, retV, ↓reduceIte, Nat.reduceEqDiff, reduceCtorEq, AS, t0, t3, show decide ((0 : Int) < ((0 : Nat) : Int)) = false from rfl]
    refine X_mks (x := (0 : El 16)) (n := 0) (by simp only [maxBytes]; omega) (by omega) fun p w1 ho hB => ?_
    simp (maxSteps := 1000000) (disch := omega) only [WS, List.getElem_cons_zero, List.getElem_cons_succ, Option.isNone_some, Option.isNone_none, List.getD_cons_zero, List.getD_cons_succ, I.at, atL, atO, atP, evp, evs, retV, ↓reduceIte, Nat.reduceEqDiff, reduceCtorEq, AS, t0, t3]
    refine ho.Xcpy (h.up hB) fun w2 ho2 hg => ?_
    simp (maxSteps := 1000000) (disch := omega) only [WS, List.getElem_cons_zero, List.getElem_cons_succ, Option.isNone_some, Option.isNone_none, List.getD_cons_zero, List.getD_cons_succ, I.at, atL, atO, atP, evp, evs, retV, ↓reduceIte, Nat.reduceEqDiff, reduceCtorEq, AS]
    refine ⟨?_, hB.grown hg hB.size fun b hb => (ho.blk b hb).1⟩
    rw [htr]
    simpa using ho2
  have k1 : k - 1 < l.length := by omega
  by_cases hz : l[k - 1] = 0
  · have d1 : decide ((l[k - 1].v.toNat : Int) = 0) = true := decide_eq_true ((el_zero _).mpr hz)
    have hne : tln l ≠ k := fun e => tln_top l (k - 1) (by omega) (by rw [co_get l k1]; exact hz)
    simp (maxSteps := 1000000) (disch := omega) only [WS, List.getElem_cons_zero, List.getElem_cons_succ, Option.isNone_some, Option.isNone_none, List.getD_cons_zero, List.getD_cons_succ, I.at, atL, atO, atP, evp, evs, retV, ↓reduceIte, Nat.reduceEqDiff, reduceCtorEq, AS, t0, t3, h.Xix k1, h.Xld k1, cell_e16, d1]
    exact ⟨⟨k - 1, rfl, by omega, by omega⟩, by omega⟩
  · have d1 : decide ((l[k - 1].v.toNat : Int) = 0) = false := decide_eq_false (fun e => hz ((el_zero _).mp e))
    have hkt : tln l = k := by
      rcases Nat.lt_or_ge (tln l) k with hlt | hge
      · exact absurd (tln_dg l (k - 1) (by omega)) (by rw [co_get l k1]; exact hz)
      · omega
    simp (maxSteps := 1000000) (disch := omega) only [WS, List.getElem_cons_zero, List.getElem_cons_succ, Option.isNone_some, Option.isNone_none, List.getD_cons_zero, List.getD_cons_succ, I.at, atL, atO, atP, evp, evs, retV, ↓reduceIte, Nat.reduceEqDiff, reduceCtorEq, AS, t0, t3, h.Xix k1, h.Xld k1, cell_e16, d1]
    refine X_mks (x := (0 : El 16)) (n := k) (by simp only [maxBytes]; omega) (by omega) fun p w1 ho hB => ?_
    simp (maxSteps := 1000000) (disch := omega) only [WS, List.getElem_cons_zero, List.getElem_cons_succ, Option.isNone_some, Option.isNone_none, List.getD_cons_zero, List.getD_cons_succ, I.at, atL, atO, atP, evp, evs, retV, ↓reduceIte, Nat.reduceEqDiff, reduceCtorEq, AS, t0, t3]
    refine ho.Xcpy (h.up hB) fun w2 ho2 hg => ?_
    simp (maxSteps := 1000000) (disch := omega) only [WS, List.getElem_cons_zero, List.getElem_cons_succ, Option.isNone_some, Option.isNone_none, List.getD_cons_zero, List.getD_cons_succ, I.at, atL, atO, atP, evp, evs, retV, ↓reduceIte, Nat.reduceEqDiff, reduceCtorEq, AS]
    refine ⟨?_, hB.grown hg hB.size fun b hb => (ho.blk b hb).1⟩
    rw [List.length_replicate, List.drop_of_length_le (by simp; omega), List.append_nil, ← hkt] at ho2
    exact ho2
theorem culletref04_product_w_spec (w : World) (s1 s2 : Value) (l1 l2 : List (El 16)) (h1 : Sl w s1 l1) (h2 : Sl w s2 l2) (hb1 : l1.length ≤ 1048576) (hb2 : l2.length ≤ 1048576) :
    CallV Try.prog 71 [.bool true, s1, s2] w fun v w' => ∃ l, Ow w.heap.size w' v l ∧ tr l = l ∧ co l = co l1 * co l2 ∧ l.length ≤ l1.length + l2.length ∧ RowKit.Below w.heap.size w w' := by
  refine run_culletref04_product (by simp) ?_
  simp only [c_culletref04_product, WS, List.getElem_cons_zero, List.getElem_cons_succ, Option.isNone_some, Option.isNone_none, List.getD_cons_zero, List.getD_cons_succ, I.at, atL, atO, atP, evp, evs, retV, ↓reduceIte, Nat.reduceEqDiff, reduceCtorEq]
  simp (maxSteps := 1000000) (disch := omega) only [WS, List.getElem_cons_zero, List.getElem_cons_succ, Option.isNone_some, Option.isNone_none, List.getD_cons_zero, List.getD_cons_succ, I.at, atL, atO, atP, evp, evs, retV, ↓reduceIte, Nat.reduceEqDiff, reduceCtorEq, AS, h1.Xlen, h2.Xlen]
  refine X_mks (x := (0 : El 16)) (by simp only [maxBytes]; omega) (by omega) fun p w1 ho hB => ?_
  simp (maxSteps := 1000000) (disch := omega) only [WS, List.getElem_cons_zero, List.getElem_cons_succ, Option.isNone_some, Option.isNone_none, List.getD_cons_zero, List.getD_cons_succ, I.at, atL, atO, atP, evp, evs, retV, ↓reduceIte, Nat.reduceEqDiff, reduceCtorEq, AS]
  refine loop_of (fun t w2 => t 0 = .bool true ∧ t 1 = s1 ∧ t 2 = s2 ∧ t 7 = p ∧ RowKit.Below w.heap.size w w2 ∧ ∃ (i : Nat) (ls : List (El 16)), t 8 = .int .i64 (i : Int) ∧ i ≤ l1.length ∧ Ow w.heap.size w2 p ls ∧ ls.length = l1.length + l2.length ∧ co ls = co (l1.take i) * co l2)
    (fun t _ => l1.length - (toI (t 8)).toNat) ⟨by simp only [WS, List.getElem_cons_zero, List.getElem_cons_succ, Option.isNone_some, Option.isNone_none, List.getD_cons_zero, List.getD_cons_succ, I.at, atL, atO, atP, evp, evs, retV, ↓reduceIte, Nat.reduceEqDiff, reduceCtorEq], by simp only [WS, List.getElem_cons_zero, List.getElem_cons_succ, Option.isNone_some, Option.isNone_none, List.getD_cons_zero, List.getD_cons_succ, I.at, atL, atO, atP, evp, evs, retV, ↓reduceIte, Nat.reduceEqDiff, reduceCtorEq], by simp only [WS, List.getElem_cons_zero, List.getElem_cons_succ, Option.isNone_some, Option.isNone_none, List.getD_cons_zero, List.getD_cons_succ, I.at, atL, atO, atP, evp, evs, retV, ↓reduceIte, Nat.reduceEqDiff, reduceCtorEq], by simp only [WS, List.getElem_cons_zero, List.getElem_cons_succ, Option.isNone_some, Option.isNone_none, List.getD_cons_zero, List.getD_cons_succ, I.at, atL, atO, atP, evp, evs, retV, ↓reduceIte, Nat.reduceEqDiff, reduceCtorEq], hB, 0, _, rfl, by omega, ho, List.length_replicate .., by rw [List.take_zero, co_nil, Ps.zero_mul, co_replicate]⟩ ?_
  clear ho hB
  rintro t w2 ⟨t0, t1, t2, t7, B, i, ls, t8, hi, ho, hll, hc⟩
  by_cases hlt : i < l1.length
  · have g1 := h1.up B
    by_cases hx : l1[i] = 0
    · have d1 : (!decide ((l1[i].v.toNat : Int) = 0)) = false := by rw [decide_eq_true ((el_zero _).mpr hx)]; rfl
      simp (maxSteps := 1000000) (disch := omega) only [WS, List.getElem_cons_zero, List.getElem_cons_succ, Option.isNone_some, Option.isNone_none, List.getD_cons_zero, List.getD_cons_succ, I.at, atL, atO, atP, evp, evs, retV, ↓reduceIte, Nat.reduceEqDiff, reduceCtorEq, AS, t0, t1, t2, t7, t8, g1.Xlen, g1.Xix hlt, g1.Xld hlt, cell_e16, d1]
      refine ⟨⟨B, i + 1, ls, rfl, by omega, ho, hll, ?_⟩, by omega⟩
      rw [hc, co_take_succ _ hlt, hx, mono_zero, Ps.add_zero]
    · have d1 : (!decide ((l1[i].v.toNat : Int) = 0)) = true := by rw [decide_eq_false (fun e => hx ((el_zero _).mp e))]; rfl
      simp (maxSteps := 1000000) (disch := omega) only [WS, List.getElem_cons_zero, List.getElem_cons_succ, Option.isNone_some, Option.isNone_none, List.getD_cons_zero, List.getD_cons_succ, I.at, atL, atO, atP, evp, evs, retV, ↓reduceIte, Nat.reduceEqDiff, reduceCtorEq, AS, t0, t1, t2, t7, t8, g1.Xlen, g1.Xix hlt, g1.Xld hlt, cell_e16, d1]
      refine loop_of (fun t w2 => t 0 = .bool true ∧ t 1 = s1 ∧ t 2 = s2 ∧ t 7 = p ∧ t 8 = .int .i64 (i : Int) ∧ RowKit.Below w.heap.size w w2 ∧ ∃ (j : Nat) (ls : List (El 16)), t 9 = .int .i64 (j : Int) ∧ j ≤ l2.length ∧
          Ow w.heap.size w2 p ls ∧ ls.length = l1.length + l2.length ∧ ∀ k, (co ls).c k = (co (l1.take i) * co l2).c k + (if i ≤ k ∧ k < i + j then l1[i] * (co l2).c (k - i) else 0))
        (fun t _ => l2.length - (toI (t 9)).toNat) ⟨by simp only [WS, List.getElem_cons_zero, List.getElem_cons_succ, Option.isNone_some, Option.isNone_none, List.getD_cons_zero, List.getD_cons_succ, I.at, atL, atO, atP, evp, evs, retV, ↓reduceIte, Nat.reduceEqDiff, reduceCtorEq]; exact t0, by simp only [WS, List.getElem_cons_zero, List.getElem_cons_succ, Option.isNone_some, Option.isNone_none, List.getD_cons_zero, List.getD_cons_succ, I.at, atL, atO, atP, evp, evs, retV, ↓reduceIte, Nat.reduceEqDiff, reduceCtorEq]; exact t1, by simp only [WS, List.getElem_cons_zero, List.getElem_cons_succ, Option.isNone_some, Option.isNone_none, List.getD_cons_zero, List.getD_cons_succ, I.at, atL, atO, atP, evp, evs, retV, ↓reduceIte, Nat.reduceEqDiff, reduceCtorEq]; exact t2, by simp only [WS, List.getElem_cons_zero, List.getElem_cons_succ, Option.isNone_some, Option.isNone_none, List.getD_cons_zero, List.getD_cons_succ, I.at, atL, atO, atP, evp, evs, retV, ↓reduceIte, Nat.reduceEqDiff, reduceCtorEq]; exact t7, by simp only [WS, List.getElem_cons_zero, List.getElem_cons_succ, Option.isNone_some, Option.isNone_none, List.getD_cons_zero, List.getD_cons_succ, I.at, atL, atO, atP, evp, evs, retV, ↓reduceIte, Nat.reduceEqDiff, reduceCtorEq]; exact t8, B, 0, ls, rfl, by omega, ho, hll, fun k => by rw [hc, if_neg (by omega), El.add_zero]⟩ ?_
      clear ho hc hll B t0 t1 t2 t7 t8 g1
      rintro t w3 ⟨t0, t1, t2, t7, t8, B, j, ls, t9, hj, ho, hll, hc⟩
      have g2 := h2.up B
      have g1 := h1.up B
      by_cases hjl : j < l2.length
      · have hij : i + j < ls.length := by omega
        simp (maxSteps := 1000000) (disch := omega) only [WS, List.getElem_cons_zero, List.getElem_cons_succ, Option.isNone_some, Option.isNone_none, List.getD_cons_zero, List.getD_cons_succ, I.at, atL, atO, atP, evp, evs, retV, ↓reduceIte, Nat.reduceEqDiff, reduceCtorEq, AS, t0, t1, t2, t7, t8, t9, g2.Xlen]
        refine WP_dops ?_
        have hos := ho.sl.drew
        have g1d := g1.drew
        have g2d := g2.drew
        have see : Fw.sees Try.prog (.ld (.c (elP p (i + j)))) w3.drew (.int .u16 (ls[i + j].v.toNat : Int)) = True := hos.sees hij Try.prog
        have see1 : Fw.sees Try.prog (.ld (.c (elP s1 i))) w3.drew (.int .u16 (l1[i].v.toNat : Int)) = True := g1d.sees hlt Try.prog
        have see2 : Fw.sees Try.prog (.ld (.c (elP s2 j))) w3.drew (.int .u16 (l2[j].v.toNat : Int)) = True := g2d.sees hjl Try.prog
        simp (maxSteps := 1000000) (disch := omega) only [ES, List.mem_cons, List.not_mem_nil, implies_true, forall_const, WS, List.getElem_cons_zero, List.getElem_cons_succ, Option.isNone_some, Option.isNone_none, List.getD_cons_zero, List.getD_cons_succ, I.at, atL, atO, atP, evp, evs, retV, ↓reduceIte, Nat.reduceEqDiff, reduceCtorEq, AS, t0, t1, t2, t7, t8, t9, hos.Eix hij, hos.Eld hij, g1d.Eix hlt, g1d.Eld hlt, g2d.Eix hjl, g2d.Eld hjl, cell_e16]
        refine E_call0 ((culletref04_times_w_spec w3.drew l1[i] l2[j]).mono ?_)
        rintro _ w4 ⟨rfl, rfl⟩
        simp (maxSteps := 1000000) (disch := omega) only [ES, List.mem_cons, List.not_mem_nil, implies_true, forall_const, WS, List.getElem_cons_zero, List.getElem_cons_succ, Option.isNone_some, Option.isNone_none, List.getD_cons_zero, List.getD_cons_succ, I.at, atL, atO, atP, evp, evs, retV, ↓reduceIte, Nat.reduceEqDiff, reduceCtorEq, AS, t0, t1, t2, t7, t8, t9, see, see1, see2, hos.Eix hij, hos.Eld hij, cell_e16, xor16]
        refine Ow.Est ho.drew hij (ls[i + j] + l1[i] * l2[j]) fun w5 ho5 hg5 => ?_
        simp (maxSteps := 1000000) (disch := omega) only [ES, List.mem_cons, List.not_mem_nil, implies_true, forall_const, WS, List.getElem_cons_zero, List.getElem_cons_succ, Option.isNone_some, Option.isNone_none, List.getD_cons_zero, List.getD_cons_succ, I.at, atL, atO, atP, evp, evs, retV, ↓reduceIte, Nat.reduceEqDiff, reduceCtorEq, AS, t0, t1, t2, t7, t8, t9]
        refine ⟨⟨B.grown (grown_of_drew hg5) B.size fun b hb => (ho.blk b hb).1, j + 1, _, rfl, by omega, ho5, by simp [hll], fun k => ?_⟩, by omega⟩
        rw [co_set _ hij, hc k]
        by_cases hk : k = i + j
        · subst hk
          rw [if_pos rfl, if_pos ⟨by omega, by omega⟩]
          have := hc (i + j)
          rw [if_neg (by omega), El.add_zero, co_get ls hij] at this
          rw [this, show i + j - i = j by omega, co_get _ hjl]
        · rw [if_neg hk]
          have : (i ≤ k ∧ k < i + (j + 1)) = (i ≤ k ∧ k < i + j) := propext ⟨fun h => by omega, fun h => by omega⟩
          simp only [this]
      · simp (maxSteps := 1000000) (disch := omega) only [WS, List.getElem_cons_zero, List.getElem_cons_succ, Option.isNone_some, Option.isNone_none, List.getD_cons_zero, List.getD_cons_succ, I.at, atL, atO, atP, evp, evs, retV, ↓reduceIte, Nat.reduceEqDiff, reduceCtorEq, AS, t0, t1, t2, t7, t8, t9, g2.Xlen]
        refine ⟨⟨B, i + 1, ls, rfl, by omega, ho, hll, ?_⟩, by omega⟩
        rw [co_take_succ _ hlt, Ps.add_mul]
        refine Ps.ext fun k => ?_
        rw [hc k, Ps.add_c, Ps.mono_mul]
        congr 1
        by_cases hik : i ≤ k
        · rw [if_pos hik]
          by_cases hk2 : k < i + j
          · rw [if_pos ⟨hik, hk2⟩]
          · rw [if_neg (by omega), co_dg l2 (k - i) (by omega), El.mul_zero]
        · rw [if_neg (by omega), if_neg hik]
  · obtain rfl : i = l1.length := by omega
    rw [List.take_length] at hc
    simp (maxSteps := 1000000) (disch := omega) only [WS, List.getElem_cons_zero, List.getElem_cons_succ, Option.isNone_some, Option.isNone_none, List.getD_cons_zero, List.getD_cons_succ, I.at, atL, atO, atP, evp, evs, retV, ↓reduceIte, Nat.reduceEqDiff, reduceCtorEq, AS, t0, t1, t2, t7, t8, (h1.up B).Xlen]
    refine X_call0 ((culletref04_Trim_spec w2 p ls ho.sl (by omega)).mono ?_)
    rintro v w3 ⟨o3, hB⟩
    simp (maxSteps := 1000000) (disch := omega) only [WS, List.getElem_cons_zero, List.getElem_cons_succ, Option.isNone_some, Option.isNone_none, List.getD_cons_zero, List.getD_cons_succ, I.at, atL, atO, atP, evp, evs, retV, ↓reduceIte, Nat.reduceEqDiff, reduceCtorEq, AS]
    exact ⟨tr ls, o3.mono B.size, tr_tr ls, by rw [tr_co, hc], by rw [tr_len]; have := tln_le ls; omega, B.trans (hB.mono B.size)⟩
theorem culletref04_Mul_w_spec (w : World) (s1 s2 : Value) (l1 l2 : List (El 16)) (h1 : Sl w s1 l1) (h2 : Sl w s2 l2) (hb1 : l1.length ≤ 70368744175616) (hb2 : l2.length ≤ 70368744175616) :
    CallV Try.prog 69 [.bool true, s1, s2] w fun v w' => RowKit.Below w.heap.size w w' ∧
      ((l1.length ≤ 1024 ∧ l2.length ≤ 1024 ∧ ∃ s l, v = .tuple #[s, .int .i64 0] ∧ Ow w.heap.size w' s l ∧ tr l = l ∧ co l = co l1 * co l2 ∧ l.length ≤ l1.length + l2.length) ∨
       (¬ (l1.length ≤ 1024 ∧ l2.length ≤ 1024) ∧ v = .tuple #[.slice none 0 0, .int .i64 5])) := by
  refine run_culletref04_Mul (by simp) ?_
  simp only [c_culletref04_Mul, WS, List.getElem_cons_zero, List.getElem_cons_succ, Option.isNone_some, Option.isNone_none, List.getD_cons_zero, List.getD_cons_succ, I.at, atL, atO, atP, evp, evs, retV, ↓reduceIte, Nat.reduceEqDiff, reduceCtorEq]
  by_cases c1 : 1024 < l1.length
  · simp (maxSteps := 1000000) (disch := omega) only [WS, List.getElem_cons_zero, List.getElem_cons_succ, Option.isNone_some, Option.isNone_none, List.getD_cons_zero, List.getD_cons_succ, I.at, atL, atO, atP, evp, evs, retV, ↓reduceIte, Nat.reduceEqDiff, reduceCtorEq, AS, h1.Xlen]
    exact ⟨RowKit.Below.refl _ _, Or.inr (by omega)⟩
  by_cases c2 : 1024 < l2.length
  · simp (maxSteps := 1000000) (disch := omega) only [WS, List.getElem_cons_zero, List.getElem_cons_succ, Option.isNone_some, Option.isNone_none, List.getD_cons_zero, List.getD_cons_succ, I.at, atL, atO, atP, evp, evs, retV, ↓reduceIte, Nat.reduceEqDiff, reduceCtorEq, AS, h1.Xlen, h2.Xlen]
    exact ⟨RowKit.Below.refl _ _, Or.inr (by omega)⟩
  simp (maxSteps := 1000000) (disch := omega) only [WS, List.getElem_cons_zero, List.getElem_cons_succ, Option.isNone_some, Option.isNone_none, List.getD_cons_zero, List.getD_cons_succ, I.at, atL, atO, atP, evp, evs, retV, ↓reduceIte, Nat.reduceEqDiff, reduceCtorEq, AS, h1.Xlen, h2.Xlen]
  refine X_call0 ((culletref04_product_w_spec w s1 s2 l1 l2 h1 h2 (by omega) (by omega)).mono ?_)
  rintro v w' ⟨l, ol, tl, cl, ll, hB⟩
  simp (maxSteps := 1000000) (disch := omega) only [WS, List.getElem_cons_zero, List.getElem_cons_succ, Option.isNone_some, Option.isNone_none, List.getD_cons_zero, List.getD_cons_succ, I.at, atL, atO, atP, evp, evs, retV, ↓reduceIte, Nat.reduceEqDiff, reduceCtorEq, AS]
  exact ⟨hB, Or.inl ⟨by omega, by omega, v, l, rfl, ol, tl, cl, ll⟩⟩
theorem culletref04_vanishing_w_spec (w : World) (s : Value) (l : List (El 16)) (h : Sl w s l) (hb : l.length ≤ 1048576) :
    CallV Try.prog 70 [.bool true, s] w fun v w' => ∃ m, Ow w.heap.size w' v m ∧ m.length = l.length + 1 ∧ co m = vps l ∧ RowKit.Below w.heap.size w w' := by
  refine run_culletref04_vanishing (by simp) ?_
  simp only [c_culletref04_vanishing, WS, List.getElem_cons_zero, List.getElem_cons_succ, Option.isNone_some, Option.isNone_none, List.getD_cons_zero, List.getD_cons_succ, I.at, atL, atO, atP, evp, evs, retV, ↓reduceIte, Nat.reduceEqDiff, reduceCtorEq]
  refine X_bsl (zs := [(1 : El 16)]) (by rfl) (by rfl) fun p w1 ho hB => ?_
  simp (maxSteps := 1000000) (disch := omega) only [WS, List.getElem_cons_zero, List.getElem_cons_succ, Option.isNone_some, Option.isNone_none, List.getD_cons_zero, List.getD_cons_succ, I.at, atL, atO, atP, evp, evs, retV, ↓reduceIte, Nat.reduceEqDiff, reduceCtorEq, AS]
  refine loop_of (fun t w' => t 0 = .bool true ∧ t 1 = s ∧ RowKit.Below w.heap.size w w' ∧ ∃ (i : Nat) (p : Value) (ls : List (El 16)), t 6 = .int .i64 (i : Int) ∧ i ≤ l.length ∧ t 5 = p ∧ Ow w.heap.size w' p ls ∧ ls.length = i + 1 ∧ co ls = vps (l.take i))
    (fun t _ => l.length - (toI (t 6)).toNat) ⟨by simp only [WS, List.getElem_cons_zero, List.getElem_cons_succ, Option.isNone_some, Option.isNone_none, List.getD_cons_zero, List.getD_cons_succ, I.at, atL, atO, atP, evp, evs, retV, ↓reduceIte, Nat.reduceEqDiff, reduceCtorEq], by simp only [WS, List.getElem_cons_zero, List.getElem_cons_succ, Option.isNone_some, Option.isNone_none, List.getD_cons_zero, List.getD_cons_succ, I.at, atL, atO, atP, evp, evs, retV, ↓reduceIte, Nat.reduceEqDiff, reduceCtorEq], hB, 0, p, _, rfl, by omega, by simp only [WS, List.getElem_cons_zero, List.getElem_cons_succ, Option.isNone_some, Option.isNone_none, List.getD_cons_zero, List.getD_cons_succ, I.at, atL, atO, atP, evp, evs, retV, ↓reduceIte, Nat.reduceEqDiff, reduceCtorEq], ho, rfl, by
      rw [List.take_zero]
      refine Ps.ext fun k => ?_
      cases k <;> rfl⟩ ?_
  clear ho hB p w1
  rintro t w2 ⟨t0, t1, B, i, p, ls, t6, hi, t5, ho, hll, hc⟩
  by_cases hlt : i < l.length
  · simp (maxSteps := 1000000) (disch := omega) only [WS, List.getElem_cons_zero, List.getElem_cons_succ, Option.isNone_some, Option.isNone_none, List.getD_cons_zero, List.getD_cons_succ, I.at, atL, atO, atP, evp, evs, retV, ↓reduceIte, Nat.reduceEqDiff, reduceCtorEq, AS, t0, t1, t5, t6, (h.up B).Xlen, ho.sl.Xlen, hll]
    refine X_mks (x := (0 : El 16)) (by simp only [maxBytes]; omega) (by omega) fun q w3 oq hB => ?_
    obtain ⟨vb, hvb, hvlt⟩ := ho.sl.blk_lt (by rintro rfl; simp at hll)
    have hq : Fw.blk q ≠ some vb := fun e => by have := (oq.blk vb e).1; omega
    have oq := oq.mono B.size
    have ho := ho.up hB
    have B := B.trans (hB.mono B.size)
    clear hB
    simp (maxSteps := 1000000) (disch := omega) only [WS, List.getElem_cons_zero, List.getElem_cons_succ, Option.isNone_some, Option.isNone_none, List.getD_cons_zero, List.getD_cons_succ, I.at, atL, atO, atP, evp, evs, retV, ↓reduceIte, Nat.reduceEqDiff, reduceCtorEq, AS, t0, t1, t5, t6]
    refine loop_of (fun t w' => t 0 = .bool true ∧ t 1 = s ∧ t 5 = p ∧ t 6 = .int .i64 (i : Int) ∧ t 7 = q ∧ RowKit.Below w.heap.size w w' ∧ Ow w.heap.size w' p ls ∧ ∃ (j : Nat) (ms : List (El 16)), t 8 = .int .i64 (j : Int) ∧ j ≤ i + 1 ∧ Ow w.heap.size w' q ms ∧ ms.length = i + 2 ∧
        ∀ u, (co ms).c u = (if 1 ≤ u ∧ u ≤ j then (co ls).c (u - 1) else 0) + (if u < j then (co ls).c u * l[i] else 0)) (fun t _ => i + 1 - (toI (t 8)).toNat)
      ⟨by simp only [WS, List.getElem_cons_zero, List.getElem_cons_succ, Option.isNone_some, Option.isNone_none, List.getD_cons_zero, List.getD_cons_succ, I.at, atL, atO, atP, evp, evs, retV, ↓reduceIte, Nat.reduceEqDiff, reduceCtorEq]; exact t0, by simp only [WS, List.getElem_cons_zero, List.getElem_cons_succ, Option.isNone_some, Option.isNone_none, List.getD_cons_zero, List.getD_cons_succ, I.at, atL, atO, atP, evp, evs, retV, ↓reduceIte, Nat.reduceEqDiff, reduceCtorEq]; exact t1, by simp only [WS, List.getElem_cons_zero, List.getElem_cons_succ, Option.isNone_some, Option.isNone_none, List.getD_cons_zero, List.getD_cons_succ, I.at, atL, atO, atP, evp, evs, retV, ↓reduceIte, Nat.reduceEqDiff, reduceCtorEq]; exact t5, by simp only [WS, List.getElem_cons_zero, List.getElem_cons_succ, Option.isNone_some, Option.isNone_none, List.getD_cons_zero, List.getD_cons_succ, I.at, atL, atO, atP, evp, evs, retV, ↓reduceIte, Nat.reduceEqDiff, reduceCtorEq]; exact t6, by simp only [WS, List.getElem_cons_zero, List.getElem_cons_succ, Option.isNone_some, Option.isNone_none, List.getD_cons_zero, List.getD_cons_succ, I.at, atL, atO, atP, evp, evs, retV, ↓reduceIte, Nat.reduceEqDiff, reduceCtorEq], B, ho, 0, _, rfl, by omega, oq, by simp, fun u => by rw [co_replicate, if_neg (by omega), if_neg (by omega)]; rfl⟩ ?_
    clear B ho oq t0 t1 t5 t6
    rintro t w6 ⟨t0, t1, t5, t6, t7, B, om, j, ms, t8, hj, oq, msl, msc⟩
    by_cases hjl : j < i + 1
    · have jm : j < ls.length := by omega
      have j1 : j + 1 < ms.length := by omega
      simp (maxSteps := 1000000) (disch := omega) only [WS, List.getElem_cons_zero, List.getElem_cons_succ, Option.isNone_some, Option.isNone_none, List.getD_cons_zero, List.getD_cons_succ, I.at, atL, atO, atP, evp, evs, retV, ↓reduceIte, Nat.reduceEqDiff, reduceCtorEq, AS, t0, t1, t5, t6, t7, t8, om.sl.Xlen, hll]
      refine WP_dops ?_
      have hqd := oq.sl.drew
      have hmd := om.sl.drew
      simp (maxSteps := 1000000) (disch := omega) only [ES, List.mem_cons, List.not_mem_nil, implies_true, forall_const, WS, List.getElem_cons_zero, List.getElem_cons_succ, Option.isNone_some, Option.isNone_none, List.getD_cons_zero, List.getD_cons_succ, I.at, atL, atO, atP, evp, evs, retV, ↓reduceIte, Nat.reduceEqDiff, reduceCtorEq, AS, t0, t1, t5, t6, t7, t8, hqd.Eix j1, hqd.Eld j1, hmd.Eix jm, hmd.Eld jm, cell_e16, xor16]
      refine Ow.Est oq.drew j1 (ms[j + 1] + ls[j]) fun w7 oq7 hg7 => ?_
      have hgd := grown_of_drew hg7
      have om7 := om.grown hgd (by rw [hvb]; exact fun e => hq e.symm)
      have B7 := B.grown hgd B.size fun b hb => (oq.blk b hb).1
      have l7 : (ms.set (j + 1) (ms[j + 1] + ls[j])).length = i + 2 := by simpa using msl
      have c7 : ∀ u, (co (ms.set (j + 1) (ms[j + 1] + ls[j]))).c u = (if 1 ≤ u ∧ u ≤ j + 1 then (co ls).c (u - 1) else 0) + (if u < j then (co ls).c u * l[i] else 0) := fun u => by
        rw [co_set _ j1, msc u]
        by_cases hu : u = j + 1
        · subst hu
          rw [if_pos rfl, if_pos ⟨by omega, by omega⟩, if_neg (by omega), El.add_zero, ← co_get ms j1, msc (j + 1), if_neg (by omega), if_neg (by omega), El.add_zero, El.zero_add, Nat.add_sub_cancel, co_get ls jm]
        · rw [if_neg hu]
          congr 1
          by_cases hc : 1 ≤ u ∧ u ≤ j
          · rw [if_pos hc, if_pos ⟨hc.1, by omega⟩]
          · rw [if_neg hc, if_neg (by omega)]
      generalize ms.set (j + 1) (ms[j + 1] + ls[j]) = ns at oq7 l7 c7
      have j0n : j < ns.length := by omega
      simp (maxSteps := 1000000) (disch := omega) only [ES, List.mem_cons, List.not_mem_nil, implies_true, forall_const, WS, List.getElem_cons_zero, List.getElem_cons_succ, Option.isNone_some, Option.isNone_none, List.getD_cons_zero, List.getD_cons_succ, I.at, atL, atO, atP, evp, evs, retV, ↓reduceIte, Nat.reduceEqDiff, reduceCtorEq, AS, t0, t1, t5, t6, t7, t8]
      refine WP_dops ?_
      have hqd := oq7.sl.drew
      have hmd := om7.sl.drew
      have hsd := (h.up B7).drew
      have see : Fw.sees Try.prog (.ld (.c (elP q j))) w7.drew (.int .u16 (ns[j].v.toNat : Int)) = True := hqd.sees j0n Try.prog
      have see2 : Fw.sees Try.prog (.ld (.c (elP p j))) w7.drew (.int .u16 (ls[j].v.toNat : Int)) = True := hmd.sees jm Try.prog
      simp (maxSteps := 1000000) (disch := omega) only [ES, List.mem_cons, List.not_mem_nil, implies_true, forall_const, WS, List.getElem_cons_zero, List.getElem_cons_succ, Option.isNone_some, Option.isNone_none, List.getD_cons_zero, List.getD_cons_succ, I.at, atL, atO, atP, evp, evs, retV, ↓reduceIte, Nat.reduceEqDiff, reduceCtorEq, AS, t0, t1, t5, t6, t7, t8, hqd.Eix j0n, hqd.Eld j0n, hmd.Eix jm, hmd.Eld jm, hsd.Eix hlt, hsd.Eld hlt, cell_e16]
      refine E_call0 ((culletref04_times_w_spec w7.drew ls[j] l[i]).mono ?_)
      rintro _ w8 ⟨rfl, rfl⟩
      simp (maxSteps := 1000000) (disch := omega) only [ES, List.mem_cons, List.not_mem_nil, implies_true, forall_const, WS, List.getElem_cons_zero, List.getElem_cons_succ, Option.isNone_some, Option.isNone_none, List.getD_cons_zero, List.getD_cons_succ, I.at, atL, atO, atP, evp, evs, retV, ↓reduceIte, Nat.reduceEqDiff, reduceCtorEq, AS, see, see2, xor16, t0, t1, t5, t6, t7, t8, hqd.Eix j0n, hqd.Eld j0n, cell_e16]
      refine Ow.Est oq7.drew j0n (ns[j] + ls[j] * l[i]) fun w9 oq9 hg9 => ?_
      have hgd := grown_of_drew hg9
      simp (maxSteps := 1000000) (disch := omega) only [ES, List.mem_cons, List.not_mem_nil, implies_true, forall_const, WS, List.getElem_cons_zero, List.getElem_cons_succ, Option.isNone_some, Option.isNone_none, List.getD_cons_zero, List.getD_cons_succ, I.at, atL, atO, atP, evp, evs, retV, ↓reduceIte, Nat.reduceEqDiff, reduceCtorEq, AS, t0, t1, t5, t6, t7, t8]
      refine ⟨⟨B7.grown hgd B7.size fun b hb => (oq7.blk b hb).1, om7.grown hgd (by rw [hvb]; exact fun e => hq e.symm), j + 1, _, rfl, by omega, oq9, by simp [l7], fun u => ?_⟩, by omega⟩
      rw [co_set _ j0n, c7 u]
      by_cases hu : u = j
      · subst hu
        rw [if_pos rfl, if_pos (show u < u + 1 by omega), ← co_get ns j0n, c7 u, if_neg (show ¬ u < u by omega), El.add_zero, co_get ls jm]
      · rw [if_neg hu]
        congr 1
        by_cases hc : u < j
        · rw [if_pos hc, if_pos (by omega)]
        · rw [if_neg hc, if_neg (by omega)]
    · obtain rfl : j = i + 1 := by omega
      simp (maxSteps := 1000000) (disch := omega) only [WS, List.getElem_cons_zero, List.getElem_cons_succ, Option.isNone_some, Option.isNone_none, List.getD_cons_zero, List.getD_cons_succ, I.at, atL, atO, atP, evp, evs, retV, ↓reduceIte, Nat.reduceEqDiff, reduceCtorEq, AS, t0, t1, t5, t6, t7, t8, om.sl.Xlen, hll]
      refine ⟨⟨B, i + 1, q, ms, rfl, by omega, rfl, oq, by omega, ?_⟩, by omega⟩
      rw [vps_take l hlt, ← hc]
      refine Ps.ext fun u => ?_
      rw [msc u, lin_mul, El.add_comm]
      congr 1
      · by_cases hu : u < i + 1
        · rw [if_pos hu, El.mul_comm]
        · rw [if_neg hu, co_dg ls u (by omega), El.mul_zero]
      · cases u with
        | zero => rfl
        | succ u =>
          rw [if_neg (show ¬ u + 1 = 0 by omega), Nat.add_sub_cancel]
          by_cases hu : u + 1 ≤ i + 1
          · rw [if_pos ⟨by omega, hu⟩]
          · rw [if_neg (by omega), co_dg ls u (by omega)]
  · obtain rfl : i = l.length := by omega
    rw [List.take_length] at hc
    simp (maxSteps := 1000000) (disch := omega) only [WS, List.getElem_cons_zero, List.getElem_cons_succ, Option.isNone_some, Option.isNone_none, List.getD_cons_zero, List.getD_cons_succ, I.at, atL, atO, atP, evp, evs, retV, ↓reduceIte, Nat.reduceEqDiff, reduceCtorEq, AS, t0, t1, t5, t6, (h.up B).Xlen]
    exact ⟨ls, ho, hll, hc, B⟩
theorem culletref04_Vanishing_w_spec (w : World) (s : Value) (l : List (El 16)) (h : Sl w s l) (hb : l.length ≤ 70368744175616) :
    CallV Try.prog 68 [.bool true, s] w fun v w' => RowKit.Below w.heap.size w w' ∧
      ((l.length ≤ 1024 ∧ ∃ s m, v = .tuple #[s, .int .i64 0] ∧ Ow w.heap.size w' s m ∧ m.length = l.length + 1 ∧ co m = vps l) ∨ (¬ l.length ≤ 1024 ∧ v = .tuple #[.slice none 0 0, .int .i64 5])) := by
  refine run_culletref04_Vanishing (by simp) ?_
  simp only [c_culletref04_Vanishing, WS, List.getElem_cons_zero, List.getElem_cons_succ, Option.isNone_some, Option.isNone_none, List.getD_cons_zero, List.getD_cons_succ, I.at, atL, atO, atP, evp, evs, retV, ↓reduceIte, Nat.reduceEqDiff, reduceCtorEq]
  by_cases c1 : 1024 < l.length
  · simp (maxSteps := 1000000) (disch := omega) only [WS, List.getElem_cons_zero, List.getElem_cons_succ, Option.isNone_some, Option.isNone_none, List.getD_cons_zero, List.getD_cons_succ, I.at, atL, atO, atP, evp, evs, retV, ↓reduceIte, Nat.reduceEqDiff, reduceCtorEq, AS, h.Xlen]
    exact ⟨RowKit.Below.refl _ _, Or.inr (by omega)⟩
  simp (maxSteps := 1000000) (disch := omega) only [WS, List.getElem_cons_zero, List.getElem_cons_succ, Option.isNone_some, Option.isNone_none, List.getD_cons_zero, List.getD_cons_succ, I.at, atL, atO, atP, evp, evs, retV, ↓reduceIte, Nat.reduceEqDiff, reduceCtorEq, AS, h.Xlen]
  refine X_call0 ((culletref04_vanishing_w_spec w s l h (by omega)).mono ?_)
  rintro v w' ⟨m, om, ml, mc, hB⟩
  simp (maxSteps := 1000000) (disch := omega) only [WS, List.getElem_cons_zero, List.getElem_cons_succ, Option.isNone_some, Option.isNone_none, List.getD_cons_zero, List.getD_cons_succ, I.at, atL, atO, atP, evp, evs, retV, ↓reduceIte, Nat.reduceEqDiff, reduceCtorEq, AS]
  exact ⟨hB, Or.inl ⟨by omega, v, m, rfl, om, ml, mc⟩⟩
end Go.Proofs.Ytcnabolainmaeaa.Fw
