import Derived.Test.YtcnabolainmaeaaProg
import Derived.Test.YtcnabolainmaeaaFwTV
import Derived.Test.YtcnabolainmaeaaSS13mV
set_option linter.all false
set_option linter.unusedVariables false
set_option linter.unusedSimpArgs false
set_option maxRecDepth 100000
set_option maxHeartbeats 1000000
namespace Go.Proofs.Ytcnabolainmaeaa.Fw
open Go Go.Fw Go.Proofs
attribute [local irreducible] stepI
def c_culletref13_Vanish : C := .seq (.ops [⟨0, (some 4), none, .mov (.c (.int .u16 0)), []⟩, ⟨1, (some 5), none, .mov (.c (.int .i64 0)), []⟩]) (.seq (.seq (.ops [⟨0, (some 6), none, .mov (.t 0), []⟩, ⟨1, (some 7), none, .bin .lss (.t 6) (.c (.int .i64 0)), []⟩, ⟨2, (some 8), none, .mov (.t 7), []⟩, ⟨3, (some 9), (some (8, false)), .mov (.t 0), []⟩, ⟨4, (some 10), (some (8, false)), .bin .gtr (.t 9) (.c (.int .i64 16)), []⟩, ⟨5, (some 11), none, .pick (.t 8) (.c (.bool true)) (.t 10), []⟩]) (.ite (.t 11) (.seq (.ops [⟨0, (some 4), none, .mov (.c (.int .u16 0)), []⟩, ⟨1, (some 5), none, .mov (.c (.int .i64 7)), []⟩]) .ret) .skip)) (.seq (.ops [⟨0, (some 12), none, .mov (.t 0), []⟩, ⟨1, (some 13), none, .mov (.t 1), []⟩, ⟨2, (some 14), none, .call (.c (.func (.func 59) #[] #[])) [.t 12, .t 13], []⟩, ⟨3, (some 4), none, .mov (.t 14), []⟩, ⟨4, (some 5), none, .mov (.c (.int .i64 0)), []⟩]) .ret))
attribute [irreducible] c_culletref13_Vanish
theorem run_culletref13_Vanish {args : List Value} {w : World} {K : Value → World → Prop} (hn : args.length ≤ 15) (h : WP Try.prog c_culletref13_Vanish (endQ [.t 4, .t 5] K) (initT args) w) : CallV Try.prog 46 args w K :=
  call_of follows Try.func46 (by kernel_rfl) (by kernel_rfl) hn h
def c_culletref13_Linear : C := .seq (.ops [⟨0, (some 2), none, .mov (.c (.slice none 0 0)), []⟩, ⟨1, (some 3), none, .mov (.c (.int .i64 0)), []⟩]) (.seq (.seq (.ops [⟨0, (some 10), none, .mov (.t 0), []⟩, ⟨1, (some 11), none, .bin .lss (.t 10) (.c (.int .i64 0)), []⟩, ⟨2, (some 12), none, .mov (.t 11), []⟩, ⟨3, (some 13), (some (12, false)), .mov (.t 0), []⟩, ⟨4, (some 14), (some (12, false)), .bin .gtr (.t 13) (.c (.int .i64 16)), []⟩, ⟨5, (some 15), none, .pick (.t 12) (.c (.bool true)) (.t 14), []⟩]) (.ite (.t 15) (.seq (.ops [⟨0, (some 2), none, .mov (.c (.slice none 0 0)), []⟩, ⟨1, (some 3), none, .mov (.c (.int .i64 7)), []⟩]) .ret) .skip)) (.seq (.ops [⟨0, (some 16), none, .bsl 22 1 [.int .u16 0] [(0, (1, .c (.int .u16 1)))], []⟩, ⟨1, (some 4), none, .mov (.t 16), []⟩]) (.seq (.ops [⟨0, (some 17), none, .call (.c (.func (.func 60) #[] #[])) [], []⟩, ⟨1, (some 5), none, .mov (.t 17), []⟩]) (.seq (.seq (.ops [⟨0, (some 6), none, .mov (.c (.int .i64 0)), []⟩]) (.block 0 (.loop (.seq (.seq (.ops [⟨0, (some 18), none, .mov (.t 6), []⟩, ⟨1, (some 19), none, .mov (.t 0), []⟩, ⟨2, (some 20), none, .bin .lss (.t 18) (.t 19), []⟩]) (.ite (.t 20) .skip (.exit 0))) (.seq (.block 1 (.seq (.ops [⟨0, (some 23), none, .mov (.t 6), []⟩, ⟨1, (some 24), none, .mov (.t 5), []⟩, ⟨2, (some 25), none, .mov (.t 6), []⟩, ⟨3, (some 26), none, .ixs 1 (.t 24) (.t 25), []⟩, ⟨4, (some 27), none, .ld (.t 26), []⟩, ⟨5, (some 28), none, .call (.c (.func (.func 59) #[] #[])) [.t 23, .t 27], []⟩, ⟨6, (some 7), none, .mov (.t 28), []⟩]) (.seq (.ops [⟨0, (some 29), none, .mov (.t 4), []⟩, ⟨1, (some 30), none, .len (.t 29), []⟩, ⟨2, (some 31), none, .bin .add (.t 30) (.c (.int .i64 1)), []⟩, ⟨3, (some 32), none, .mks 22 2 [.int .u16 0] (.t 31) (.t 31), []⟩, ⟨4, (some 8), none, .mov (.t 32), []⟩]) (.seq (.seq (.ops [⟨0, (some 9), none, .mov (.c (.int .i64 0)), []⟩]) (.block 2 (.loop (.seq (.seq (.ops [⟨0, (some 33), none, .mov (.t 9), []⟩, ⟨1, (some 34), none, .mov (.t 4), []⟩, ⟨2, (some 35), none, .len (.t 34), []⟩, ⟨3, (some 36), none, .bin .lss (.t 33) (.t 35), []⟩]) (.ite (.t 36) .skip (.exit 2))) (.seq (.block 3 (.seq (.dops [⟨0, (some 39), none, .mov (.t 8), []⟩, ⟨1, (some 40), none, .mov (.t 9), []⟩, ⟨2, (some 41), none, .bin .add (.t 40) (.c (.int .i64 1)), []⟩, ⟨3, (some 42), none, .mov (.t 8), []⟩, ⟨4, (some 43), none, .mov (.t 9), []⟩, ⟨5, (some 44), none, .bin .add (.t 43) (.c (.int .i64 1)), []⟩, ⟨6, (some 45), none, .ixs 1 (.t 42) (.t 44), []⟩, ⟨7, (some 46), none, .ld (.t 45), []⟩, ⟨8, (some 47), none, .mov (.t 4), []⟩, ⟨9, (some 48), none, .mov (.t 9), []⟩, ⟨10, (some 49), none, .ixs 1 (.t 47) (.t 48), []⟩, ⟨11, (some 50), none, .ld (.t 49), []⟩, ⟨12, (some 51), none, .mov (.t 4), []⟩, ⟨13, (some 52), none, .mov (.t 9), []⟩, ⟨14, (some 53), none, .ixs 1 (.t 51) (.t 52), []⟩, ⟨15, (some 54), none, .ld (.t 53), []⟩, ⟨16, (some 55), none, .call (.c (.func (.func 61) #[] #[])) [.t 50, .t 54], [7]⟩, ⟨17, (some 56), none, .bin .xor (.t 46) (.t 55), []⟩, ⟨18, (some 57), none, .ixs 1 (.t 39) (.t 41), []⟩, ⟨19, none, none, .st (.t 57) (.t 56), []⟩]) (.dops [⟨0, (some 58), none, .mov (.t 8), []⟩, ⟨1, (some 59), none, .mov (.t 9), []⟩, ⟨2, (some 60), none, .mov (.t 8), []⟩, ⟨3, (some 61), none, .mov (.t 9), []⟩, ⟨4, (some 62), none, .ixs 1 (.t 60) (.t 61), []⟩, ⟨5, (some 63), none, .ld (.t 62), []⟩, ⟨6, (some 64), none, .mov (.t 4), []⟩, ⟨7, (some 65), none, .mov (.t 9), []⟩, ⟨8, (some 66), none, .ixs 1 (.t 64) (.t 65), []⟩, ⟨9, (some 67), none, .ld (.t 66), []⟩, ⟨10, (some 68), none, .mov (.t 7), []⟩, ⟨11, (some 69), none, .call (.c (.func (.func 61) #[] #[])) [.t 67, .t 68], [5]⟩, ⟨12, (some 70), none, .bin .xor (.t 63) (.t 69), []⟩, ⟨13, (some 71), none, .ixs 1 (.t 58) (.t 59), []⟩, ⟨14, none, none, .st (.t 71) (.t 70), []⟩]))) (.ops [⟨0, (some 37), none, .mov (.t 9), []⟩, ⟨1, (some 38), none, .bin .add (.t 37) (.c (.int .i64 1)), []⟩, ⟨2, (some 9), none, .mov (.t 38), []⟩])))))) (.ops [⟨0, (some 72), none, .mov (.t 8), []⟩, ⟨1, (some 4), none, .mov (.t 72), []⟩]))))) (.ops [⟨0, (some 21), none, .mov (.t 6), []⟩, ⟨1, (some 22), none, .bin .add (.t 21) (.c (.int .i64 1)), []⟩, ⟨2, (some 6), none, .mov (.t 22), []⟩])))))) (.seq (.ops [⟨0, (some 73), none, .mov (.t 4), []⟩, ⟨1, (some 2), none, .mov (.t 73), []⟩, ⟨2, (some 3), none, .mov (.c (.int .i64 0)), []⟩]) .ret)))))
attribute [irreducible] c_culletref13_Linear
theorem run_culletref13_Linear {args : List Value} {w : World} {K : Value → World → Prop} (hn : args.length ≤ 74) (h : WP Try.prog c_culletref13_Linear (endQ [.t 2, .t 3] K) (initT args) w) : CallV Try.prog 47 args w K :=
  call_of follows Try.func47 (by kernel_rfl) (by kernel_rfl) hn h
def c_culletref13_Skew : C := .seq (.ops [⟨0, (some 4), none, .mov (.c (.int .u16 0)), []⟩, ⟨1, (some 5), none, .mov (.c (.int .i64 0)), []⟩]) (.seq (.seq (.ops [⟨0, (some 8), none, .mov (.t 0), []⟩, ⟨1, (some 9), none, .bin .lss (.t 8) (.c (.int .i64 0)), []⟩, ⟨2, (some 10), none, .mov (.t 9), []⟩, ⟨3, (some 11), (some (10, false)), .mov (.t 0), []⟩, ⟨4, (some 12), (some (10, false)), .bin .gtr (.t 11) (.c (.int .i64 16)), []⟩, ⟨5, (some 13), none, .pick (.t 10) (.c (.bool true)) (.t 12), []⟩]) (.ite (.t 13) (.seq (.ops [⟨0, (some 4), none, .mov (.c (.int .u16 0)), []⟩, ⟨1, (some 5), none, .mov (.c (.int .i64 7)), []⟩]) .ret) .skip)) (.seq (.ops [⟨0, (some 15), none, .mov (.t 1), []⟩, ⟨1, (some 16), none, .call (.c (.func (.func 62) #[] #[])) [.t 15], []⟩, ⟨2, (some 14), none, .mov (.t 16), []⟩, ⟨3, (some 17), none, .ext (.t 14) 0, []⟩, ⟨4, (some 18), none, .ext (.t 14) 1, []⟩, ⟨5, (some 6), none, .mov (.t 17), []⟩, ⟨6, (some 7), none, .mov (.t 18), []⟩]) (.seq (.seq (.ops [⟨0, (some 19), none, .mov (.t 7), []⟩, ⟨1, (some 20), none, .bin .neq (.t 19) (.c (.int .i64 0)), []⟩]) (.ite (.t 20) (.seq (.ops [⟨0, (some 4), none, .mov (.c (.int .u16 0)), []⟩, ⟨1, (some 5), none, .mov (.c (.int .i64 31)), []⟩]) .ret) .skip)) (.seq (.ops [⟨0, (some 21), none, .mov (.t 0), []⟩, ⟨1, (some 22), none, .mov (.t 6), []⟩, ⟨2, (some 23), none, .call (.c (.func (.func 59) #[] #[])) [.t 21, .t 22], []⟩, ⟨3, (some 4), none, .mov (.t 23), []⟩, ⟨4, (some 5), none, .mov (.c (.int .i64 0)), []⟩]) .ret))))
attribute [irreducible] c_culletref13_Skew
theorem run_culletref13_Skew {args : List Value} {w : World} {K : Value → World → Prop} (hn : args.length ≤ 24) (h : WP Try.prog c_culletref13_Skew (endQ [.t 4, .t 5] K) (initT args) w) : CallV Try.prog 48 args w K :=
  call_of follows Try.func48 (by kernel_rfl) (by kernel_rfl) hn h
def c_culletref13_Basis : C := .seq (.ops [⟨0, (some 4), none, .mov (.c (.int .u16 0)), []⟩, ⟨1, (some 5), none, .mov (.c (.int .i64 0)), []⟩]) (.seq (.seq (.ops [⟨0, (some 8), none, .mov (.t 0), []⟩, ⟨1, (some 9), none, .bin .lss (.t 8) (.c (.int .i64 0)), []⟩, ⟨2, (some 10), none, .mov (.t 9), []⟩, ⟨3, (some 11), (some (10, false)), .mov (.t 0), []⟩, ⟨4, (some 12), (some (10, false)), .bin .gtr (.t 11) (.c (.int .i64 65535)), []⟩, ⟨5, (some 13), none, .pick (.t 10) (.c (.bool true)) (.t 12), []⟩]) (.ite (.t 13) (.seq (.ops [⟨0, (some 4), none, .mov (.c (.int .u16 0)), []⟩, ⟨1, (some 5), none, .mov (.c (.int .i64 31)), []⟩]) .ret) .skip)) (.seq (.ops [⟨0, (some 6), none, .mov (.c (.int .u16 1)), []⟩]) (.seq (.seq (.ops [⟨0, (some 7), none, .mov (.c (.int .i64 0)), []⟩]) (.block 0 (.loop (.seq (.seq (.ops [⟨0, (some 14), none, .mov (.t 7), []⟩, ⟨1, (some 15), none, .bin .lss (.t 14) (.c (.int .i64 16)), []⟩]) (.ite (.t 15) .skip (.exit 0))) (.seq (.block 1 (.seq (.ops [⟨0, (some 18), none, .mov (.t 0), []⟩, ⟨1, (some 19), none, .mov (.t 7), []⟩, ⟨2, (some 20), none, .cnv .u64 (.t 19), []⟩, ⟨3, (some 21), none, .bin .shr (.t 18) (.t 20), []⟩, ⟨4, (some 22), none, .bin .and (.t 21) (.c (.int .i64 1)), []⟩, ⟨5, (some 23), none, .bin .eql (.t 22) (.c (.int .i64 1)), []⟩]) (.ite (.t 23) (.ops [⟨0, (some 24), none, .mov (.t 6), []⟩, ⟨1, (some 25), none, .mov (.t 7), []⟩, ⟨2, (some 26), none, .mov (.t 1), []⟩, ⟨3, (some 27), none, .call (.c (.func (.func 59) #[] #[])) [.t 25, .t 26], []⟩, ⟨4, (some 28), none, .call (.c (.func (.func 61) #[] #[])) [.t 24, .t 27], []⟩, ⟨5, (some 6), none, .mov (.t 28), []⟩]) .skip))) (.ops [⟨0, (some 16), none, .mov (.t 7), []⟩, ⟨1, (some 17), none, .bin .add (.t 16) (.c (.int .i64 1)), []⟩, ⟨2, (some 7), none, .mov (.t 17), []⟩])))))) (.seq (.ops [⟨0, (some 29), none, .mov (.t 6), []⟩, ⟨1, (some 4), none, .mov (.t 29), []⟩, ⟨2, (some 5), none, .mov (.c (.int .i64 0)), []⟩]) .ret))))
attribute [irreducible] c_culletref13_Basis
theorem run_culletref13_Basis {args : List Value} {w : World} {K : Value → World → Prop} (hn : args.length ≤ 30) (h : WP Try.prog c_culletref13_Basis (endQ [.t 4, .t 5] K) (initT args) w) : CallV Try.prog 50 args w K :=
  call_of follows Try.func50 (by kernel_rfl) (by kernel_rfl) hn h
def c_culletref13_vanish : C := .seq (.ops [⟨0, (some 4), none, .mov (.c (.int .u16 0)), []⟩]) (.seq (.ops [⟨0, (some 8), none, .mov (.t 0), []⟩, ⟨1, (some 9), none, .call (.c (.func (.func 66) #[] #[])) [.t 8], []⟩, ⟨2, (some 5), none, .mov (.t 9), []⟩]) (.seq (.ops [⟨0, (some 6), none, .mov (.c (.int .u16 1)), []⟩]) (.seq (.seq (.ops [⟨0, (some 7), none, .mov (.c (.int .i64 0)), []⟩]) (.block 0 (.loop (.seq (.seq (.ops [⟨0, (some 10), none, .mov (.t 7), []⟩, ⟨1, (some 11), none, .mov (.t 5), []⟩, ⟨2, (some 12), none, .len (.t 11), []⟩, ⟨3, (some 13), none, .bin .lss (.t 10) (.t 12), []⟩]) (.ite (.t 13) .skip (.exit 0))) (.seq (.block 1 (.seq (.seq (.ops [⟨0, (some 16), none, .mov (.t 6), []⟩, ⟨1, (some 17), none, .bin .eql (.t 16) (.c (.int .u16 0)), []⟩]) (.ite (.t 17) (.seq (.ops [⟨0, (some 4), none, .mov (.c (.int .u16 0)), []⟩]) .ret) .skip)) (.ops [⟨0, (some 18), none, .mov (.t 6), []⟩, ⟨1, (some 19), none, .mov (.t 1), []⟩, ⟨2, (some 20), none, .mov (.t 5), []⟩, ⟨3, (some 21), none, .mov (.t 7), []⟩, ⟨4, (some 22), none, .ixs 1 (.t 20) (.t 21), []⟩, ⟨5, (some 23), none, .ld (.t 22), []⟩, ⟨6, (some 24), none, .bin .xor (.t 19) (.t 23), []⟩, ⟨7, (some 25), none, .call (.c (.func (.func 61) #[] #[])) [.t 18, .t 24], []⟩, ⟨8, (some 6), none, .mov (.t 25), []⟩]))) (.ops [⟨0, (some 14), none, .mov (.t 7), []⟩, ⟨1, (some 15), none, .bin .add (.t 14) (.c (.int .i64 1)), []⟩, ⟨2, (some 7), none, .mov (.t 15), []⟩])))))) (.seq (.ops [⟨0, (some 26), none, .mov (.t 6), []⟩, ⟨1, (some 4), none, .mov (.t 26), []⟩]) .ret))))
attribute [irreducible] c_culletref13_vanish
theorem run_culletref13_vanish {args : List Value} {w : World} {K : Value → World → Prop} (hn : args.length ≤ 27) (h : WP Try.prog c_culletref13_vanish (endQ [.t 4] K) (initT args) w) : CallV Try.prog 59 args w K :=
  call_of follows Try.func59 (by kernel_rfl) (by kernel_rfl) hn h
end Go.Proofs.Ytcnabolainmaeaa.Fw
namespace Go.Proofs.Ytcnabolainmaeaa.Fw
open Go Go.Fw
theorem pV_zero {j : Nat} {x : El 16} (h : pV j x = 0) : ∀ m, pV (j + m) x = 0
  | 0 => h
  | m + 1 => by show pV (j + m) x * _ = 0; rw [pV_zero h m, El.zero_mul]
theorem culletref13_vanish_spec (w : World) (i : Nat) (x : El 16) (hi : i ≤ 16) : CallV Try.prog 59 [.int .i64 (i : Int), .int .u16 (x.v.toNat : Int)] w fun v w' => v = .int .u16 ((sV i x).v.toNat : Int) ∧ RowKit.Below w.heap.size w w' := by
  refine run_culletref13_vanish (by simp) ?_
  simp only [c_culletref13_vanish, WS, List.getElem_cons_zero, List.getElem_cons_succ, Option.isNone_some, Option.isNone_none, List.getD_cons_zero, List.getD_cons_succ, I.at, atL, atO, atP, evp, evs, retV, ↓reduceIte, Nat.reduceEqDiff, reduceCtorEq]
  refine X_call0 ((culletref03_ElementsTo_spec w i hi).mono ?_)
  rintro se w1 ⟨oe, hB⟩
  have oe := oe.sl
  have B := hB
  clear hB
  have i16 := pow_le16' hi
  rw [← pV_sV i x hi]
  simp (maxSteps := 1000000) (disch := omega) only [WS, List.getElem_cons_zero, List.getElem_cons_succ, Option.isNone_some, Option.isNone_none, List.getD_cons_zero, List.getD_cons_succ, I.at, atL, atO, atP, evp, evs, retV, ↓reduceIte, Nat.reduceEqDiff, reduceCtorEq, AS]
  refine loop_of (fun t w' => t 1 = .int .u16 (x.v.toNat : Int) ∧ t 5 = se ∧ w' = w1 ∧ ∃ j : Nat, t 7 = .int .i64 (j : Int) ∧ j ≤ 2 ^ i ∧ t 6 = .int .u16 ((pV j x).v.toNat : Int)) (fun t _ => 2 ^ i - (toI (t 7)).toNat) ⟨by simp only [WS, List.getElem_cons_zero, List.getElem_cons_succ, Option.isNone_some, Option.isNone_none, List.getD_cons_zero, List.getD_cons_succ, I.at, atL, atO, atP, evp, evs, retV, ↓reduceIte, Nat.reduceEqDiff, reduceCtorEq], by simp only [WS, List.getElem_cons_zero, List.getElem_cons_succ, Option.isNone_some, Option.isNone_none, List.getD_cons_zero, List.getD_cons_succ, I.at, atL, atO, atP, evp, evs, retV, ↓reduceIte, Nat.reduceEqDiff, reduceCtorEq], rfl, 0, rfl, Nat.zero_le _, rfl⟩ ?_
  rintro t w2 ⟨t1, t5, rfl, j, t7, hj, t6⟩
  by_cases hji : j < 2 ^ i
  · have jl : j < (wls (2 ^ i)).length := by rw [wls_len]; exact hji
    have hg := wls_get jl
    by_cases hz : pV j x = 0
    · have d1 : decide (((pV j x).v.toNat : Int) = 0) = true := decide_eq_true ((el_zero _).mpr hz)
      have := pV_zero hz (2 ^ i - j)
      rw [show j + (2 ^ i - j) = 2 ^ i by omega] at this
      rw [this]
      simp (maxSteps := 1000000) (disch := omega) only [WS, List.getElem_cons_zero, List.getElem_cons_succ, Option.isNone_some, Option.isNone_none, List.getD_cons_zero, List.getD_cons_succ, I.at, atL, atO, atP, evp, evs, retV, ↓reduceIte, Nat.reduceEqDiff, reduceCtorEq, AS, t1, t5, t6, t7, oe.Xlen, wls_len, d1]
      exact ⟨rfl, B⟩
    · have d1 : decide (((pV j x).v.toNat : Int) = 0) = false := decide_eq_false (fun e => hz ((el_zero _).mp e))
      simp (maxSteps := 1000000) (disch := omega) only [WS, List.getElem_cons_zero, List.getElem_cons_succ, Option.isNone_some, Option.isNone_none, List.getD_cons_zero, List.getD_cons_succ, I.at, atL, atO, atP, evp, evs, retV, ↓reduceIte, Nat.reduceEqDiff, reduceCtorEq, AS, t1, t5, t6, t7, oe.Xlen, wls_len, d1, oe.Xix jl, oe.Xld jl, hg, cell_e16, xor16]
      refine X_call0 ((culletref03_Mul_spec w2 (pV j x) (x + wel j)).mono ?_)
      rintro _ w3 ⟨rfl, rfl⟩
      simp (maxSteps := 1000000) (disch := omega) only [WS, List.getElem_cons_zero, List.getElem_cons_succ, Option.isNone_some, Option.isNone_none, List.getD_cons_zero, List.getD_cons_succ, I.at, atL, atO, atP, evp, evs, retV, ↓reduceIte, Nat.reduceEqDiff, reduceCtorEq, AS, t1, t5, t6, t7]
      exact ⟨⟨j + 1, rfl, by omega, rfl⟩, by omega⟩
  · obtain rfl : j = 2 ^ i := by omega
    simp (maxSteps := 1000000) (disch := omega) only [WS, List.getElem_cons_zero, List.getElem_cons_succ, Option.isNone_some, Option.isNone_none, List.getD_cons_zero, List.getD_cons_succ, I.at, atL, atO, atP, evp, evs, retV, ↓reduceIte, Nat.reduceEqDiff, reduceCtorEq, AS, t1, t5, t6, t7, oe.Xlen, wls_len]
    exact B
theorem culletref13_Vanish_spec (w : World) (i : Int) (x : El 16) : CallV Try.prog 46 [.int .i64 i, .int .u16 (x.v.toNat : Int)] w fun v w' => RowKit.Below w.heap.size w w' ∧
    ((0 ≤ i ∧ i ≤ 16 ∧ v = .tuple #[.int .u16 ((sV i.toNat x).v.toNat : Int), .int .i64 0]) ∨ (¬ (0 ≤ i ∧ i ≤ 16) ∧ v = .tuple #[.int .u16 0, .int .i64 7])) := by
  refine run_culletref13_Vanish (by simp) ?_
  simp only [c_culletref13_Vanish, WS, List.getElem_cons_zero, List.getElem_cons_succ, Option.isNone_some, Option.isNone_none, List.getD_cons_zero, List.getD_cons_succ, I.at, atL, atO, atP, evp, evs, retV, ↓reduceIte, Nat.reduceEqDiff, reduceCtorEq]
  by_cases h0 : i < 0
  · simp (maxSteps := 1000000) (disch := omega) only [WS, List.getElem_cons_zero, List.getElem_cons_succ, Option.isNone_some, Option.isNone_none, List.getD_cons_zero, List.getD_cons_succ, I.at, atL, atO, atP, evp, evs, retV, ↓reduceIte, Nat.reduceEqDiff, reduceCtorEq, AS]
    exact ⟨RowKit.Below.refl _ _, Or.inr (by omega)⟩
  obtain ⟨i, rfl⟩ : ∃ m : Nat, i = (m : Int) := ⟨i.toNat, by omega⟩
  by_cases h1 : 16 < i
  · simp (maxSteps := 1000000) (disch := omega) only [WS, List.getElem_cons_zero, List.getElem_cons_succ, Option.isNone_some, Option.isNone_none, List.getD_cons_zero, List.getD_cons_succ, I.at, atL, atO, atP, evp, evs, retV, ↓reduceIte, Nat.reduceEqDiff, reduceCtorEq, AS]
    exact ⟨RowKit.Below.refl _ _, Or.inr (by omega)⟩
  simp (maxSteps := 1000000) (disch := omega) only [WS, List.getElem_cons_zero, List.getElem_cons_succ, Option.isNone_some, Option.isNone_none, List.getD_cons_zero, List.getD_cons_succ, I.at, atL, atO, atP, evp, evs, retV, ↓reduceIte, Nat.reduceEqDiff, reduceCtorEq, AS]
  refine X_call0 ((culletref13_vanish_spec w i x (by omega)).mono ?_)
  rintro _ w' ⟨rfl, hB⟩
  simp (maxSteps := 1000000) (disch := omega) only [WS, List.getElem_cons_zero, List.getElem_cons_succ, Option.isNone_some, Option.isNone_none, List.getD_cons_zero, List.getD_cons_succ, I.at, atL, atO, atP, evp, evs, retV, ↓reduceIte, Nat.reduceEqDiff, reduceCtorEq, AS, Int.toNat_natCast]
  exact ⟨hB, Or.inl (by omega)⟩
theorem culletref13_Skew_spec (w : World) (i j : Int) : CallV Try.prog 48 [.int .i64 i, .int .i64 j] w fun v w' => RowKit.Below w.heap.size w w' ∧
    ((0 ≤ i ∧ i ≤ 16 ∧ 0 ≤ j ∧ j < 65536 ∧ v = .tuple #[.int .u16 ((wel (j.toNat >>> i.toNat)).v.toNat : Int), .int .i64 0]) ∨ (¬ (0 ≤ i ∧ i ≤ 16) ∧ v = .tuple #[.int .u16 0, .int .i64 7]) ∨ (0 ≤ i ∧ i ≤ 16 ∧ ¬ (0 ≤ j ∧ j < 65536) ∧ v = .tuple #[.int .u16 0, .int .i64 31])) := by
  refine run_culletref13_Skew (by simp) ?_
  simp only [c_culletref13_Skew, WS, List.getElem_cons_zero, List.getElem_cons_succ, Option.isNone_some, Option.isNone_none, List.getD_cons_zero, List.getD_cons_succ, I.at, atL, atO, atP, evp, evs, retV, ↓reduceIte, Nat.reduceEqDiff, reduceCtorEq]
  by_cases h0 : i < 0
  · simp (maxSteps := 1000000) (disch := omega) only [WS, List.getElem_cons_zero, List.getElem_cons_succ, Option.isNone_some, Option.isNone_none, List.getD_cons_zero, List.getD_cons_succ, I.at, atL, atO, atP, evp, evs, retV, ↓reduceIte, Nat.reduceEqDiff, reduceCtorEq, AS]
    exact ⟨RowKit.Below.refl _ _, Or.inr (Or.inl (by omega))⟩
  obtain ⟨i, rfl⟩ : ∃ m : Nat, i = (m : Int) := ⟨i.toNat, by omega⟩
  by_cases h1 : 16 < i
  · simp (maxSteps := 1000000) (disch := omega) only [WS, List.getElem_cons_zero, List.getElem_cons_succ, Option.isNone_some, Option.isNone_none, List.getD_cons_zero, List.getD_cons_succ, I.at, atL, atO, atP, evp, evs, retV, ↓reduceIte, Nat.reduceEqDiff, reduceCtorEq, AS]
    exact ⟨RowKit.Below.refl _ _, Or.inr (Or.inl (by omega))⟩
  simp (maxSteps := 1000000) (disch := omega) only [WS, List.getElem_cons_zero, List.getElem_cons_succ, Option.isNone_some, Option.isNone_none, List.getD_cons_zero, List.getD_cons_succ, I.at, atL, atO, atP, evp, evs, retV, ↓reduceIte, Nat.reduceEqDiff, reduceCtorEq, AS]
  refine X_call0 ((culletref03_Element_spec w j).mono ?_)
  rintro _ w1 ⟨hB, ⟨j0, j1, rfl⟩ | ⟨hbad, rfl⟩⟩
  · simp (maxSteps := 1000000) (disch := omega) only [WS, List.getElem_cons_zero, List.getElem_cons_succ, Option.isNone_some, Option.isNone_none, List.getD_cons_zero, List.getD_cons_succ, I.at, atL, atO, atP, evp, evs, retV, ↓reduceIte, Nat.reduceEqDiff, reduceCtorEq, AS, show (!decide ((0 : Int) = 0)) = false from rfl]
    refine X_call0 ((culletref13_vanish_spec w1 i (wel j.toNat) (by omega)).mono ?_)
    rintro _ w2 ⟨rfl, hB2⟩
    rw [sV_wel i j.toNat (by omega)]
    simp (maxSteps := 1000000) (disch := omega) only [WS, List.getElem_cons_zero, List.getElem_cons_succ, Option.isNone_some, Option.isNone_none, List.getD_cons_zero, List.getD_cons_succ, I.at, atL, atO, atP, evp, evs, retV, ↓reduceIte, Nat.reduceEqDiff, reduceCtorEq, AS, Int.toNat_natCast]
    exact ⟨hB.trans (hB2.mono hB.size), Or.inl (by omega)⟩
  · simp (maxSteps := 1000000) (disch := omega) only [WS, List.getElem_cons_zero, List.getElem_cons_succ, Option.isNone_some, Option.isNone_none, List.getD_cons_zero, List.getD_cons_succ, I.at, atL, atO, atP, evp, evs, retV, ↓reduceIte, Nat.reduceEqDiff, reduceCtorEq, AS, show (!decide ((31 : Int) = 0)) = true from rfl]
    exact ⟨hB, Or.inr (Or.inr ⟨by omega, by omega, hbad⟩)⟩
theorem mod_pow_succ (j i : Nat) : j % 2 ^ (i + 1) = (if j.testBit i then 2 ^ i else 0) + j % 2 ^ i := by
  rw [Nat.mod_pow_succ, Nat.add_comm]
  congr 1
  have h2 : j / 2 ^ i % 2 = 0 ∨ j / 2 ^ i % 2 = 1 := by omega
  have hb : j.testBit i = decide (j / 2 ^ i % 2 = 1) := Nat.testBit_eq_decide_div_mod_eq
  rcases h2 with h | h
  · rw [hb, h]; simp
  · rw [hb, h]; simp
theorem culletref13_Basis_spec (w : World) (j : Int) (x : El 16) : CallV Try.prog 50 [.int .i64 j, .int .u16 (x.v.toNat : Int)] w fun v w' => RowKit.Below w.heap.size w w' ∧
    ((0 ≤ j ∧ j < 65536 ∧ v = .tuple #[.int .u16 ((xV 16 j.toNat x).v.toNat : Int), .int .i64 0]) ∨ (¬ (0 ≤ j ∧ j < 65536) ∧ v = .tuple #[.int .u16 0, .int .i64 31])) := by
  refine run_culletref13_Basis (by simp) ?_
  simp only [c_culletref13_Basis, WS, List.getElem_cons_zero, List.getElem_cons_succ, Option.isNone_some, Option.isNone_none, List.getD_cons_zero, List.getD_cons_succ, I.at, atL, atO, atP, evp, evs, retV, ↓reduceIte, Nat.reduceEqDiff, reduceCtorEq]
  by_cases h0 : j < 0
  · simp (maxSteps := 1000000) (disch := omega) only [WS, List.getElem_cons_zero, List.getElem_cons_succ, Option.isNone_some, Option.isNone_none, List.getD_cons_zero, List.getD_cons_succ, I.at, atL, atO, atP, evp, evs, retV, ↓reduceIte, Nat.reduceEqDiff, reduceCtorEq, AS]
    exact ⟨RowKit.Below.refl _ _, Or.inr (by omega)⟩
  obtain ⟨j, rfl⟩ : ∃ m : Nat, j = (m : Int) := ⟨j.toNat, by omega⟩
  by_cases h1 : 65535 < j
  · simp (maxSteps := 1000000) (disch := omega) only [WS, List.getElem_cons_zero, List.getElem_cons_succ, Option.isNone_some, Option.isNone_none, List.getD_cons_zero, List.getD_cons_succ, I.at, atL, atO, atP, evp, evs, retV, ↓reduceIte, Nat.reduceEqDiff, reduceCtorEq, AS]
    exact ⟨RowKit.Below.refl _ _, Or.inr (by omega)⟩
  simp (maxSteps := 1000000) (disch := omega) only [WS, List.getElem_cons_zero, List.getElem_cons_succ, Option.isNone_some, Option.isNone_none, List.getD_cons_zero, List.getD_cons_succ, I.at, atL, atO, atP, evp, evs, retV, ↓reduceIte, Nat.reduceEqDiff, reduceCtorEq, AS]
  refine loop_of (fun t w' => t 0 = .int .i64 (j : Int) ∧ t 1 = .int .u16 (x.v.toNat : Int) ∧ RowKit.Below w.heap.size w w' ∧ ∃ i : Nat, t 7 = .int .i64 (i : Int) ∧ i ≤ 16 ∧ t 6 = .int .u16 ((xV i (j % 2 ^ i) x).v.toNat : Int)) (fun t _ => 16 - (toI (t 7)).toNat) ⟨by simp only [WS, List.getElem_cons_zero, List.getElem_cons_succ, Option.isNone_some, Option.isNone_none, List.getD_cons_zero, List.getD_cons_succ, I.at, atL, atO, atP, evp, evs, retV, ↓reduceIte, Nat.reduceEqDiff, reduceCtorEq], by simp only [WS, List.getElem_cons_zero, List.getElem_cons_succ, Option.isNone_some, Option.isNone_none, List.getD_cons_zero, List.getD_cons_succ, I.at, atL, atO, atP, evp, evs, retV, ↓reduceIte, Nat.reduceEqDiff, reduceCtorEq], RowKit.Below.refl _ _, 0, rfl, by omega, rfl⟩ ?_
  rintro t w1 ⟨t0, t1, B, i, t7, hi, t6⟩
  by_cases hlt : i < 16
  · have f1 : IntKind.u64.wrap (i : Int) = (i : Int) := wrap_u64 i (by omega)
    have fnn : ((0 : Int) ≤ (i : Int)) = True := eq_true (by omega)
    have e0 := shr_nat .i64 j i (by show i ≤ 64; omega)
    have e1 : bitsOp .and .i64 ((j >>> i : Nat) : Int) 1 = (((j >>> i) &&& 1 : Nat) : Int) := bits_and fits_i64 (b := 1) (by rw [Nat.shiftRight_eq_div_pow]; exact Nat.lt_of_le_of_lt (Nat.div_le_self _ _) (by omega)) (by decide)
    rw [and_one_shr] at e1
    have hm : j % 2 ^ i < 2 ^ i := Nat.mod_lt _ (Nat.two_pow_pos i)
    have hs := mod_pow_succ j i
    by_cases hb : j.testBit i = true
    · rw [if_pos hb] at e1 hs
      simp (maxSteps := 1000000) (disch := omega) only [WS, List.getElem_cons_zero, List.getElem_cons_succ, Option.isNone_some, Option.isNone_none, List.getD_cons_zero, List.getD_cons_succ, I.at, atL, atO, atP, evp, evs, retV, ↓reduceIte, Nat.reduceEqDiff, reduceCtorEq, AS, t0, t1, t6, t7, f1, X_shr, fnn, e0, e1, show decide ((((1 : Nat)) : Int) = 1) = true from rfl]
      refine X_call0 ((culletref13_vanish_spec w1 i x (by omega)).mono ?_)
      rintro _ w2 ⟨rfl, hB⟩
      have B := B.trans (hB.mono B.size)
      clear hB
      simp (maxSteps := 1000000) (disch := omega) only [WS, List.getElem_cons_zero, List.getElem_cons_succ, Option.isNone_some, Option.isNone_none, List.getD_cons_zero, List.getD_cons_succ, I.at, atL, atO, atP, evp, evs, retV, ↓reduceIte, Nat.reduceEqDiff, reduceCtorEq, AS, t0, t1, t6, t7]
      refine X_call0 ((culletref03_Mul_spec w2 (xV i (j % 2 ^ i) x) (sV i x)).mono ?_)
      rintro _ w3 ⟨rfl, rfl⟩
      simp (maxSteps := 1000000) (disch := omega) only [WS, List.getElem_cons_zero, List.getElem_cons_succ, Option.isNone_some, Option.isNone_none, List.getD_cons_zero, List.getD_cons_succ, I.at, atL, atO, atP, evp, evs, retV, ↓reduceIte, Nat.reduceEqDiff, reduceCtorEq, AS, t0, t1, t6, t7]
      exact ⟨⟨B, i + 1, rfl, by omega, by rw [hs, xV_top i _ x hm]⟩, by omega⟩
    · rw [if_neg hb] at e1 hs
      simp (maxSteps := 1000000) (disch := omega) only [WS, List.getElem_cons_zero, List.getElem_cons_succ, Option.isNone_some, Option.isNone_none, List.getD_cons_zero, List.getD_cons_succ, I.at, atL, atO, atP, evp, evs, retV, ↓reduceIte, Nat.reduceEqDiff, reduceCtorEq, AS, t0, t1, t6, t7, f1, X_shr, fnn, e0, e1, show decide ((((0 : Nat)) : Int) = 1) = false from rfl]
      exact ⟨⟨B, i + 1, rfl, by omega, by rw [hs, Nat.zero_add, xV_more i 1 _ x hm]⟩, by omega⟩
  · obtain rfl : i = 16 := by omega
    rw [Nat.mod_eq_of_lt (show j < 2 ^ 16 by omega)] at t6
    simp (maxSteps := 1000000) (disch := omega) only [WS, List.getElem_cons_zero, List.getElem_cons_succ, Option.isNone_some, Option.isNone_none, List.getD_cons_zero, List.getD_cons_succ, I.at, atL, atO, atP, evp, evs, retV, ↓reduceIte, Nat.reduceEqDiff, reduceCtorEq, AS, t0, t1, t6, t7, show decide (((16 : Nat) : Int) < 16) = false from rfl, Int.toNat_natCast]
    exact ⟨B, Or.inl (by omega)⟩
theorem culletref13_Linear_spec (w : World) (i : Int) : CallV Try.prog 47 [.int .i64 i] w fun v w' => RowKit.Below w.heap.size w w' ∧
    ((0 ≤ i ∧ i ≤ 16 ∧ ∃ s m, v = .tuple #[s, .int .i64 0] ∧ Ow w.heap.size w' s m ∧ m.length = i.toNat + 1 ∧ (co m).c = lc i.toNat) ∨ (¬ (0 ≤ i ∧ i ≤ 16) ∧ v = .tuple #[.slice none 0 0, .int .i64 7])) := by
  refine run_culletref13_Linear (by simp) ?_
  simp only [c_culletref13_Linear, WS, List.getElem_cons_zero, List.getElem_cons_succ, Option.isNone_some, Option.isNone_none, List.getD_cons_zero, List.getD_cons_succ, I.at, atL, atO, atP, evp, evs, retV, ↓reduceIte, Nat.reduceEqDiff, reduceCtorEq]
  by_cases h0 : i < 0
  · simp (maxSteps := 1000000) (disch := omega) only [WS, List.getElem_cons_zero, List.getElem_cons_succ, Option.isNone_some, Option.isNone_none, List.getD_cons_zero, List.getD_cons_succ, I.at, atL, atO, atP, evp, evs, retV, ↓reduceIte, Nat.reduceEqDiff, reduceCtorEq, AS]
    exact ⟨RowKit.Below.refl _ _, Or.inr (by omega)⟩
  obtain ⟨i, rfl⟩ : ∃ m : Nat, i = (m : Int) := ⟨i.toNat, by omega⟩
  by_cases h1 : 16 < i
  · simp (maxSteps := 1000000) (disch := omega) only [WS, List.getElem_cons_zero, List.getElem_cons_succ, Option.isNone_some, Option.isNone_none, List.getD_cons_zero, List.getD_cons_succ, I.at, atL, atO, atP, evp, evs, retV, ↓reduceIte, Nat.reduceEqDiff, reduceCtorEq, AS]
    exact ⟨RowKit.Below.refl _ _, Or.inr (by omega)⟩
  simp (maxSteps := 1000000) (disch := omega) only [WS, List.getElem_cons_zero, List.getElem_cons_succ, Option.isNone_some, Option.isNone_none, List.getD_cons_zero, List.getD_cons_succ, I.at, atL, atO, atP, evp, evs, retV, ↓reduceIte, Nat.reduceEqDiff, reduceCtorEq, AS]
  refine X_bsl (zs := [(1 : El 16)]) (by rfl) (by rfl) fun sv w1 ov hB => ?_
  have B := hB
  clear hB
  simp (maxSteps := 1000000) (disch := omega) only [WS, List.getElem_cons_zero, List.getElem_cons_succ, Option.isNone_some, Option.isNone_none, List.getD_cons_zero, List.getD_cons_succ, I.at, atL, atO, atP, evp, evs, retV, ↓reduceIte, Nat.reduceEqDiff, reduceCtorEq, AS]
  refine X_call0 ((culletref03_Basis_spec w1).mono ?_)
  rintro sb w2 ⟨ob, hB⟩
  have ob := ob.sl
  have ov := ov.up hB
  have B := B.trans (hB.mono B.size)
  clear hB
  simp (maxSteps := 1000000) (disch := omega) only [WS, List.getElem_cons_zero, List.getElem_cons_succ, Option.isNone_some, Option.isNone_none, List.getD_cons_zero, List.getD_cons_succ, I.at, atL, atO, atP, evp, evs, retV, ↓reduceIte, Nat.reduceEqDiff, reduceCtorEq, AS]
  refine loop_of (fun t w' => t 0 = .int .i64 (i : Int) ∧ t 5 = sb ∧ RowKit.Below w.heap.size w w' ∧ RowKit.Below w2.heap.size w2 w' ∧ ∃ (k : Nat) (sv : Value) (m : List (El 16)), t 6 = .int .i64 (k : Int) ∧ k ≤ i ∧ t 4 = sv ∧ Ow w.heap.size w' sv m ∧ m.length = k + 1 ∧ (co m).c = lc k) (fun t _ => i - (toI (t 6)).toNat)
    ⟨by simp only [WS, List.getElem_cons_zero, List.getElem_cons_succ, Option.isNone_some, Option.isNone_none, List.getD_cons_zero, List.getD_cons_succ, I.at, atL, atO, atP, evp, evs, retV, ↓reduceIte, Nat.reduceEqDiff, reduceCtorEq], by simp only [WS, List.getElem_cons_zero, List.getElem_cons_succ, Option.isNone_some, Option.isNone_none, List.getD_cons_zero, List.getD_cons_succ, I.at, atL, atO, atP, evp, evs, retV, ↓reduceIte, Nat.reduceEqDiff, reduceCtorEq], B, RowKit.Below.refl _ _, 0, sv, _, rfl, by omega, by simp only [WS, List.getElem_cons_zero, List.getElem_cons_succ, Option.isNone_some, Option.isNone_none, List.getD_cons_zero, List.getD_cons_succ, I.at, atL, atO, atP, evp, evs, retV, ↓reduceIte, Nat.reduceEqDiff, reduceCtorEq], ov, rfl, by funext t; cases t <;> rfl⟩ ?_
  have S12 := B.size
  clear B ov
  rintro t w3 ⟨t0, t5, B, B2, k, sv, m, t6, hk, t4, om, ml, mc⟩
  by_cases hlt : k < i
  · have kb : k < (cbl 16).length := by rw [cbl_len]; omega
    have hg := cbl_get kb
    have ob3 := ob.up B2
    simp (maxSteps := 1000000) (disch := omega) only [WS, List.getElem_cons_zero, List.getElem_cons_succ, Option.isNone_some, Option.isNone_none, List.getD_cons_zero, List.getD_cons_succ, I.at, atL, atO, atP, evp, evs, retV, ↓reduceIte, Nat.reduceEqDiff, reduceCtorEq, AS, t0, t4, t5, t6, ob3.Xix kb, ob3.Xld kb, hg, cell_e16]
    have hone : sV k (⟨cbs.getD k 0⟩ : El 16) = 1 := by
      rw [← wel_cbs k (by omega), sV_wel k _ (Nat.pow_lt_pow_right (by omega) (show k < 16 by omega)), Nat.shiftRight_eq_div_pow, Nat.div_self (Nat.two_pow_pos k), wel_one]
    refine X_call0 ((culletref13_vanish_spec w3 k ⟨cbs.getD k 0⟩ (by omega)).mono ?_)
    rintro _ w4 ⟨rfl, hB⟩
    rw [hone]
    have B2 := B2.trans (hB.mono B2.size)
    have om := om.up hB
    have B := B.trans (hB.mono B.size)
    clear hB
    simp (maxSteps := 1000000) (disch := omega) only [WS, List.getElem_cons_zero, List.getElem_cons_succ, Option.isNone_some, Option.isNone_none, List.getD_cons_zero, List.getD_cons_succ, I.at, atL, atO, atP, evp, evs, retV, ↓reduceIte, Nat.reduceEqDiff, reduceCtorEq, AS, t0, t4, t5, t6, om.sl.Xlen, ml]
    refine X_mks (x := (0 : El 16)) (by simp only [maxBytes]; omega) (by omega) fun q w5 oq hB => ?_
    obtain ⟨vb, hvb, hvlt⟩ := om.sl.blk_lt (by rintro rfl; simp at ml)
    have hq : ∀ b, Fw.blk q = some b → w4.heap.size ≤ b := fun b hb => (oq.blk b hb).1
    have S4 := B.size
    have S24 := B2.size
    have oq := oq.mono S4
    have hqv : Fw.blk q ≠ some vb := fun e => by have := hq vb e; omega
    have B2 := B2.trans (hB.mono B2.size)
    have om := om.up hB
    have B := B.trans (hB.mono B.size)
    clear hB
    simp (maxSteps := 1000000) (disch := omega) only [WS, List.getElem_cons_zero, List.getElem_cons_succ, Option.isNone_some, Option.isNone_none, List.getD_cons_zero, List.getD_cons_succ, I.at, atL, atO, atP, evp, evs, retV, ↓reduceIte, Nat.reduceEqDiff, reduceCtorEq, AS, t0, t4, t5, t6]
    refine loop_of (fun t w' => t 0 = .int .i64 (i : Int) ∧ t 4 = sv ∧ t 5 = sb ∧ t 6 = .int .i64 (k : Int) ∧ t 7 = .int .u16 ((1 : El 16).v.toNat : Int) ∧ t 8 = q ∧ RowKit.Below w.heap.size w w' ∧ RowKit.Below w2.heap.size w2 w' ∧ Ow w.heap.size w' sv m ∧ ∃ (j : Nat) (ms : List (El 16)), t 9 = .int .i64 (j : Int) ∧ j ≤ k + 1 ∧ Ow w.heap.size w' q ms ∧ ms.length = k + 2 ∧
        ∀ u, (co ms).c u = (if 1 ≤ u ∧ u ≤ j then (co m).c (u - 1) * (co m).c (u - 1) else 0) + (if u < j then (co m).c u else 0)) (fun t _ => k + 1 - (toI (t 9)).toNat)
      ⟨by simp only [WS, List.getElem_cons_zero, List.getElem_cons_succ, Option.isNone_some, Option.isNone_none, List.getD_cons_zero, List.getD_cons_succ, I.at, atL, atO, atP, evp, evs, retV, ↓reduceIte, Nat.reduceEqDiff, reduceCtorEq]; exact t0, by simp only [WS, List.getElem_cons_zero, List.getElem_cons_succ, Option.isNone_some, Option.isNone_none, List.getD_cons_zero, List.getD_cons_succ, I.at, atL, atO, atP, evp, evs, retV, ↓reduceIte, Nat.reduceEqDiff, reduceCtorEq]; exact t4, by simp only [WS, List.getElem_cons_zero, List.getElem_cons_succ, Option.isNone_some, Option.isNone_none, List.getD_cons_zero, List.getD_cons_succ, I.at, atL, atO, atP, evp, evs, retV, ↓reduceIte, Nat.reduceEqDiff, reduceCtorEq]; exact t5, by simp only [WS, List.getElem_cons_zero, List.getElem_cons_succ, Option.isNone_some, Option.isNone_none, List.getD_cons_zero, List.getD_cons_succ, I.at, atL, atO, atP, evp, evs, retV, ↓reduceIte, Nat.reduceEqDiff, reduceCtorEq]; exact t6, by simp only [WS, List.getElem_cons_zero, List.getElem_cons_succ, Option.isNone_some, Option.isNone_none, List.getD_cons_zero, List.getD_cons_succ, I.at, atL, atO, atP, evp, evs, retV, ↓reduceIte, Nat.reduceEqDiff, reduceCtorEq], by simp only [WS, List.getElem_cons_zero, List.getElem_cons_succ, Option.isNone_some, Option.isNone_none, List.getD_cons_zero, List.getD_cons_succ, I.at, atL, atO, atP, evp, evs, retV, ↓reduceIte, Nat.reduceEqDiff, reduceCtorEq], B, B2, om, 0, _, rfl, by omega, oq, by simp, fun u => by rw [co_replicate, if_neg (by omega), if_neg (by omega)]; rfl⟩ ?_
    clear B B2 om oq t0 t4 t5 t6
    rintro t w6 ⟨t0, t4, t5, t6, t7, t8, B, B2, om, j, ms, t9, hj, oq, msl, msc⟩
    by_cases hjl : j < k + 1
    · have jm : j < m.length := by omega
      have j1 : j + 1 < ms.length := by omega
      have j0 : j < ms.length := by omega
      have hb6 : ∀ b, Fw.blk q = some b → w.heap.size ≤ b ∧ (b < w2.heap.size → False) := fun b hb => ⟨(oq.blk b hb).1, fun h => by have := hq b hb; omega⟩
      simp (maxSteps := 1000000) (disch := omega) only [WS, List.getElem_cons_zero, List.getElem_cons_succ, Option.isNone_some, Option.isNone_none, List.getD_cons_zero, List.getD_cons_succ, I.at, atL, atO, atP, evp, evs, retV, ↓reduceIte, Nat.reduceEqDiff, reduceCtorEq, AS, t0, t4, t5, t6, t7, t8, t9, om.sl.Xlen, ml]
      refine WP_dops ?_
      have hqd := oq.sl.drew
      have hmd := om.sl.drew
      have see : Fw.sees Try.prog (.ld (.c (elP q (j + 1)))) w6.drew (.int .u16 (ms[j + 1].v.toNat : Int)) = True := hqd.sees j1 Try.prog
      have see2 : Fw.sees Try.prog (.ld (.c (elP sv j))) w6.drew (.int .u16 (m[j].v.toNat : Int)) = True := hmd.sees jm Try.prog
      simp (maxSteps := 1000000) (disch := omega) only [ES, List.mem_cons, List.not_mem_nil, implies_true, forall_const, WS, List.getElem_cons_zero, List.getElem_cons_succ, Option.isNone_some, Option.isNone_none, List.getD_cons_zero, List.getD_cons_succ, I.at, atL, atO, atP, evp, evs, retV, ↓reduceIte, Nat.reduceEqDiff, reduceCtorEq, AS, t0, t4, t5, t6, t7, t8, t9, hqd.Eix j1, hqd.Eld j1, hmd.Eix jm, hmd.Eld jm, cell_e16]
      refine E_call0 ((culletref03_Mul_spec w6.drew m[j] m[j]).mono ?_)
      rintro _ w7 ⟨rfl, rfl⟩
      simp (maxSteps := 1000000) (disch := omega) only [ES, List.mem_cons, List.not_mem_nil, implies_true, forall_const, WS, List.getElem_cons_zero, List.getElem_cons_succ, Option.isNone_some, Option.isNone_none, List.getD_cons_zero, List.getD_cons_succ, I.at, atL, atO, atP, evp, evs, retV, ↓reduceIte, Nat.reduceEqDiff, reduceCtorEq, AS, see, see2, xor16, t0, t4, t5, t6, t7, t8, t9, hqd.Eix j1, hqd.Eld j1, cell_e16]
      refine Ow.Est oq.drew j1 (ms[j + 1] + m[j] * m[j]) fun w7 oq7 hg7 => ?_
      have hgd := grown_of_drew hg7
      have om7 := om.grown hgd (by rw [hvb]; exact fun e => hqv e.symm)
      have B7 := B.grown hgd B.size fun b hb => (oq.blk b hb).1
      have B27 := B2.grown hgd B2.size fun b hb => by have := hq b hb; omega
      have l7 : (ms.set (j + 1) (ms[j + 1] + m[j] * m[j])).length = k + 2 := by simpa using msl
      have c7 : ∀ u, (co (ms.set (j + 1) (ms[j + 1] + m[j] * m[j]))).c u = (if 1 ≤ u ∧ u ≤ j + 1 then (co m).c (u - 1) * (co m).c (u - 1) else 0) + (if u < j then (co m).c u else 0) := fun u => by
        rw [co_set _ j1, msc u]
        by_cases hu : u = j + 1
        · subst hu
          rw [if_pos rfl, if_pos ⟨by omega, by omega⟩, if_neg (by omega), El.add_zero, ← co_get ms j1, msc (j + 1), if_neg (by omega), if_neg (by omega), El.add_zero, El.zero_add, Nat.add_sub_cancel, co_get m jm]
        · rw [if_neg hu]
          congr 1
          by_cases hc : 1 ≤ u ∧ u ≤ j
          · rw [if_pos hc, if_pos ⟨hc.1, by omega⟩]
          · rw [if_neg hc, if_neg (by omega)]
      generalize ms.set (j + 1) (ms[j + 1] + m[j] * m[j]) = ns at oq7 l7 c7
      have j0n : j < ns.length := by omega
      simp (maxSteps := 1000000) (disch := omega) only [ES, List.mem_cons, List.not_mem_nil, implies_true, forall_const, WS, List.getElem_cons_zero, List.getElem_cons_succ, Option.isNone_some, Option.isNone_none, List.getD_cons_zero, List.getD_cons_succ, I.at, atL, atO, atP, evp, evs, retV, ↓reduceIte, Nat.reduceEqDiff, reduceCtorEq, AS, t0, t4, t5, t6, t7, t8, t9]
      refine WP_dops ?_
      have hqd := oq7.sl.drew
      have hmd := om7.sl.drew
      have see : Fw.sees Try.prog (.ld (.c (elP q j))) w7.drew (.int .u16 (ns[j].v.toNat : Int)) = True := hqd.sees j0n Try.prog
      have see2 : Fw.sees Try.prog (.ld (.c (elP sv j))) w7.drew (.int .u16 (m[j].v.toNat : Int)) = True := hmd.sees jm Try.prog
      simp (maxSteps := 1000000) (disch := omega) only [ES, List.mem_cons, List.not_mem_nil, implies_true, forall_const, WS, List.getElem_cons_zero, List.getElem_cons_succ, Option.isNone_some, Option.isNone_none, List.getD_cons_zero, List.getD_cons_succ, I.at, atL, atO, atP, evp, evs, retV, ↓reduceIte, Nat.reduceEqDiff, reduceCtorEq, AS, t0, t4, t5, t6, t7, t8, t9, hqd.Eix j0n, hqd.Eld j0n, hmd.Eix jm, hmd.Eld jm, cell_e16]
      refine E_call0 ((culletref03_Mul_spec w7.drew m[j] 1).mono ?_)
      rintro _ w8 ⟨rfl, rfl⟩
      simp (maxSteps := 1000000) (disch := omega) only [ES, List.mem_cons, List.not_mem_nil, implies_true, forall_const, WS, List.getElem_cons_zero, List.getElem_cons_succ, Option.isNone_some, Option.isNone_none, List.getD_cons_zero, List.getD_cons_succ, I.at, atL, atO, atP, evp, evs, retV, ↓reduceIte, Nat.reduceEqDiff, reduceCtorEq, AS, see, see2, xor16, t0, t4, t5, t6, t7, t8, t9, hqd.Eix j0n, hqd.Eld j0n, cell_e16]
      refine Ow.Est oq7.drew j0n (ns[j] + m[j] * 1) fun w9 oq9 hg9 => ?_
      have hgd := grown_of_drew hg9
      simp (maxSteps := 1000000) (disch := omega) only [ES, List.mem_cons, List.not_mem_nil, implies_true, forall_const, WS, List.getElem_cons_zero, List.getElem_cons_succ, Option.isNone_some, Option.isNone_none, List.getD_cons_zero, List.getD_cons_succ, I.at, atL, atO, atP, evp, evs, retV, ↓reduceIte, Nat.reduceEqDiff, reduceCtorEq, AS, t0, t4, t5, t6, t7, t8, t9]
      refine ⟨⟨B7.grown hgd B7.size fun b hb => (oq7.blk b hb).1, B27.grown hgd B27.size fun b hb => by have := hq b hb; omega, om7.grown hgd (by rw [hvb]; exact fun e => hqv e.symm), j + 1, _, rfl, by omega, oq9, by simp [l7], fun u => ?_⟩, by omega⟩
      rw [co_set _ j0n, c7 u, El.mul_one]
      by_cases hu : u = j
      · subst hu
        rw [if_pos rfl, if_pos (show u < u + 1 by omega), ← co_get ns j0n, c7 u, if_neg (show ¬ u < u by omega), El.add_zero, co_get m jm]
      · rw [if_neg hu]
        congr 1
        by_cases hc : u < j
        · rw [if_pos hc, if_pos (by omega)]
        · rw [if_neg hc, if_neg (by omega)]
    · obtain rfl : j = k + 1 := by omega
      simp (maxSteps := 1000000) (disch := omega) only [WS, List.getElem_cons_zero, List.getElem_cons_succ, Option.isNone_some, Option.isNone_none, List.getD_cons_zero, List.getD_cons_succ, I.at, atL, atO, atP, evp, evs, retV, ↓reduceIte, Nat.reduceEqDiff, reduceCtorEq, AS, t0, t4, t5, t6, t7, t8, t9, om.sl.Xlen, ml]
      refine ⟨⟨B, B2, k + 1, q, ms, rfl, by omega, rfl, oq, by omega, ?_⟩, by omega⟩
      funext u
      rw [msc u]
      show _ = lc k u + (match u with | 0 => 0 | t + 1 => lc k t * lc k t)
      rw [← mc, El.add_comm]
      congr 1
      · by_cases hu : u < k + 1
        · rw [if_pos hu]
        · rw [if_neg hu, co_dg m u (by omega)]
      · cases u with
        | zero => rfl
        | succ u =>
          dsimp only
          by_cases hu : u + 1 ≤ k + 1
          · rw [if_pos ⟨by omega, hu⟩, Nat.add_sub_cancel]
          · rw [if_neg (by omega), co_dg m u (by omega), El.mul_zero]
  · obtain rfl : k = i := by omega
    simp (maxSteps := 1000000) (disch := omega) only [WS, List.getElem_cons_zero, List.getElem_cons_succ, Option.isNone_some, Option.isNone_none, List.getD_cons_zero, List.getD_cons_succ, I.at, atL, atO, atP, evp, evs, retV, ↓reduceIte, Nat.reduceEqDiff, reduceCtorEq, AS, t0, t4, t5, t6]
    exact ⟨B, Or.inl ⟨by omega, by omega, sv, m, rfl, om, by rw [Int.toNat_natCast]; exact ml, by rw [Int.toNat_natCast]; exact mc⟩⟩
end Go.Proofs.Ytcnabolainmaeaa.Fw
