import Derived.Test.YtcbjabnnokjnpaaProg
import Derived.Test.YtcbjabnnokjnpaaFwTT
import Derived.Test.YtcbjabnnokjnpaaSH16aT
set_option linter.all false
set_option linter.unusedVariables false
set_option linter.unusedSimpArgs false
set_option maxRecDepth 100000
set_option maxHeartbeats 1000000
namespace Go.Proofs.Ytcbjabnnokjnpaa.Fw
open Go Go.Fw Go.Proofs
attribute [local irreducible] stepI
def c_shape_Whole : C := .seq (.ops [⟨0, (some 8), none, .mov (.c (.int .i64 0)), []⟩, ⟨1, (some 9), none, .mov (.c (.int .i64 0)), []⟩]) (.seq (.seq (.ops [⟨0, (some 14), none, .mov (.t 0), []⟩, ⟨1, (some 15), none, .mov (.t 1), []⟩, ⟨2, (some 16), none, .mov (.t 2), []⟩, ⟨3, (some 17), none, .mov (.t 3), []⟩, ⟨4, (some 18), none, .call (.c (.func (.func 33) #[] #[])) [.t 14, .t 15, .t 16, .t 17], []⟩, ⟨5, (some 10), none, .mov (.t 18), []⟩]) (.seq (.ops [⟨0, (some 19), none, .mov (.t 10), []⟩, ⟨1, (some 20), none, .bin .neq (.t 19) (.c (.int .i64 0)), []⟩]) (.ite (.t 20) (.seq (.ops [⟨0, (some 21), none, .mov (.t 10), []⟩, ⟨1, (some 8), none, .mov (.c (.int .i64 0)), []⟩, ⟨2, (some 9), none, .mov (.t 21), []⟩]) .ret) .skip))) (.seq (.ops [⟨0, (some 23), none, .mov (.t 3), []⟩, ⟨1, (some 24), none, .call (.c (.func (.func 34) #[] #[])) [.t 23], []⟩, ⟨2, (some 22), none, .mov (.t 24), []⟩, ⟨3, (some 25), none, .ext (.t 22) 0, []⟩, ⟨4, (some 26), none, .ext (.t 22) 1, []⟩, ⟨5, (some 27), none, .ext (.t 22) 2, []⟩, ⟨6, (some 11), none, .mov (.t 25), []⟩, ⟨7, (some 12), none, .mov (.t 26), []⟩, ⟨8, (some 13), none, .mov (.t 27), []⟩]) (.seq (.block 0 (.seq (.ops [⟨0, (some 29), none, .mov (.t 12), []⟩, ⟨1, (some 30), none, .len (.t 29), []⟩, ⟨2, (some 31), none, .bin .gtr (.t 30) (.c (.int .i64 0)), []⟩, ⟨3, (some 28), none, .mov (.t 31), []⟩]) (.ite (.t 28) (.seq (.ops [⟨0, (some 8), none, .mov (.c (.int .i64 0)), []⟩, ⟨1, (some 9), none, .mov (.c (.int .i64 161)), []⟩]) .ret) (.seq (.ops [⟨0, (some 33), none, .mov (.t 13), []⟩, ⟨1, (some 34), none, .un .not (.t 33), []⟩, ⟨2, (some 32), none, .mov (.t 34), []⟩]) (.ite (.t 32) (.seq (.ops [⟨0, (some 8), none, .mov (.c (.int .i64 0)), []⟩, ⟨1, (some 9), none, .mov (.c (.int .i64 162)), []⟩]) .ret) (.seq (.ops [⟨0, (some 36), none, .mov (.t 0), []⟩, ⟨1, (some 37), none, .mov (.t 11), []⟩, ⟨2, (some 38), none, .call (.c (.func (.func 30) #[] #[])) [.t 36, .t 37], []⟩, ⟨3, (some 35), none, .mov (.t 38), []⟩]) (.ite (.t 35) (.seq (.ops [⟨0, (some 8), none, .mov (.c (.int .i64 0)), []⟩, ⟨1, (some 9), none, .mov (.c (.int .i64 8)), []⟩]) .ret) .skip))))))) (.seq (.ops [⟨0, (some 39), none, .mov (.t 11), []⟩, ⟨1, (some 8), none, .mov (.t 39), []⟩, ⟨2, (some 9), none, .mov (.c (.int .i64 0)), []⟩]) .ret))))
attribute [irreducible] c_shape_Whole
theorem run_shape_Whole {args : List Value} {w : World} {K : Value → World → Prop} (hn : args.length ≤ 40) (h : WP Try.prog c_shape_Whole (endQ [.t 8, .t 9] K) (initT args) w) : CallV Try.prog 17 args w K :=
  call_of follows Try.func17 (by kernel_rfl) (by kernel_rfl) hn h
def c_shape_Partial : C := .seq (.ops [⟨0, (some 8), none, .mov (.c (.int .i64 0)), []⟩, ⟨1, (some 9), none, .mov (.c (.slice none 0 0)), []⟩, ⟨2, (some 10), none, .mov (.c (.int .i64 0)), []⟩]) (.seq (.seq (.ops [⟨0, (some 15), none, .mov (.t 0), []⟩, ⟨1, (some 16), none, .mov (.t 1), []⟩, ⟨2, (some 17), none, .mov (.t 2), []⟩, ⟨3, (some 18), none, .mov (.t 3), []⟩, ⟨4, (some 19), none, .call (.c (.func (.func 33) #[] #[])) [.t 15, .t 16, .t 17, .t 18], []⟩, ⟨5, (some 11), none, .mov (.t 19), []⟩]) (.seq (.ops [⟨0, (some 20), none, .mov (.t 11), []⟩, ⟨1, (some 21), none, .bin .neq (.t 20) (.c (.int .i64 0)), []⟩]) (.ite (.t 21) (.seq (.ops [⟨0, (some 22), none, .mov (.t 11), []⟩, ⟨1, (some 8), none, .mov (.c (.int .i64 0)), []⟩, ⟨2, (some 9), none, .mov (.c (.slice none 0 0)), []⟩, ⟨3, (some 10), none, .mov (.t 22), []⟩]) .ret) .skip))) (.seq (.ops [⟨0, (some 24), none, .mov (.t 3), []⟩, ⟨1, (some 25), none, .call (.c (.func (.func 34) #[] #[])) [.t 24], []⟩, ⟨2, (some 23), none, .mov (.t 25), []⟩, ⟨3, (some 26), none, .ext (.t 23) 0, []⟩, ⟨4, (some 27), none, .ext (.t 23) 1, []⟩, ⟨5, (some 28), none, .ext (.t 23) 2, []⟩, ⟨6, (some 12), none, .mov (.t 26), []⟩, ⟨7, (some 13), none, .mov (.t 27), []⟩, ⟨8, (some 14), none, .mov (.t 28), []⟩]) (.seq (.block 0 (.seq (.ops [⟨0, (some 30), none, .mov (.t 12), []⟩, ⟨1, (some 31), none, .bin .eql (.t 30) (.c (.int .i64 0)), []⟩, ⟨2, (some 29), none, .mov (.t 31), []⟩]) (.ite (.t 29) (.seq (.ops [⟨0, (some 8), none, .mov (.c (.int .i64 0)), []⟩, ⟨1, (some 9), none, .mov (.c (.slice none 0 0)), []⟩, ⟨2, (some 10), none, .mov (.c (.int .i64 161)), []⟩]) .ret) (.seq (.ops [⟨0, (some 33), none, .mov (.t 14), []⟩, ⟨1, (some 34), none, .un .not (.t 33), []⟩, ⟨2, (some 32), none, .mov (.t 34), []⟩]) (.ite (.t 32) (.seq (.ops [⟨0, (some 8), none, .mov (.c (.int .i64 0)), []⟩, ⟨1, (some 9), none, .mov (.c (.slice none 0 0)), []⟩, ⟨2, (some 10), none, .mov (.c (.int .i64 162)), []⟩]) .ret) (.seq (.ops [⟨0, (some 36), none, .mov (.t 0), []⟩, ⟨1, (some 37), none, .mov (.t 12), []⟩, ⟨2, (some 38), none, .call (.c (.func (.func 30) #[] #[])) [.t 36, .t 37], []⟩, ⟨3, (some 35), none, .mov (.t 38), []⟩]) (.ite (.t 35) (.seq (.ops [⟨0, (some 8), none, .mov (.c (.int .i64 0)), []⟩, ⟨1, (some 9), none, .mov (.c (.slice none 0 0)), []⟩, ⟨2, (some 10), none, .mov (.c (.int .i64 8)), []⟩]) .ret) (.seq (.ops [⟨0, (some 40), none, .mov (.t 13), []⟩, ⟨1, (some 41), none, .len (.t 40), []⟩, ⟨2, (some 42), none, .mov (.t 2), []⟩, ⟨3, (some 43), none, .bin .gtr (.t 41) (.t 42), []⟩, ⟨4, (some 39), none, .mov (.t 43), []⟩]) (.ite (.t 39) (.seq (.ops [⟨0, (some 8), none, .mov (.c (.int .i64 0)), []⟩, ⟨1, (some 9), none, .mov (.c (.slice none 0 0)), []⟩, ⟨2, (some 10), none, .mov (.c (.int .i64 9)), []⟩]) .ret) .skip))))))))) (.seq (.ops [⟨0, (some 44), none, .mov (.t 12), []⟩, ⟨1, (some 45), none, .mov (.t 13), []⟩, ⟨2, (some 8), none, .mov (.t 44), []⟩, ⟨3, (some 9), none, .mov (.t 45), []⟩, ⟨4, (some 10), none, .mov (.c (.int .i64 0)), []⟩]) .ret))))
attribute [irreducible] c_shape_Partial
theorem run_shape_Partial {args : List Value} {w : World} {K : Value → World → Prop} (hn : args.length ≤ 46) (h : WP Try.prog c_shape_Partial (endQ [.t 8, .t 9, .t 10] K) (initT args) w) : CallV Try.prog 24 args w K :=
  call_of follows Try.func24 (by kernel_rfl) (by kernel_rfl) hn h
def c_shape_Fresh : C := .seq (.ops [⟨0, (some 10), none, .mov (.c (.int .i64 0)), []⟩, ⟨1, (some 11), none, .mov (.c (.slice none 0 0)), []⟩, ⟨2, (some 12), none, .mov (.c (.int .i64 0)), []⟩]) (.seq (.seq (.ops [⟨0, (some 20), none, .mov (.t 0), []⟩, ⟨1, (some 21), none, .mov (.t 1), []⟩, ⟨2, (some 22), none, .mov (.t 2), []⟩, ⟨3, (some 23), none, .mov (.t 3), []⟩, ⟨4, (some 24), none, .call (.c (.func (.func 33) #[] #[])) [.t 20, .t 21, .t 22, .t 23], []⟩, ⟨5, (some 13), none, .mov (.t 24), []⟩]) (.seq (.ops [⟨0, (some 25), none, .mov (.t 13), []⟩, ⟨1, (some 26), none, .bin .neq (.t 25) (.c (.int .i64 0)), []⟩]) (.ite (.t 26) (.seq (.ops [⟨0, (some 27), none, .mov (.t 13), []⟩, ⟨1, (some 10), none, .mov (.c (.int .i64 0)), []⟩, ⟨2, (some 11), none, .mov (.c (.slice none 0 0)), []⟩, ⟨3, (some 12), none, .mov (.t 27), []⟩]) .ret) .skip))) (.seq (.seq (.ops [⟨0, (some 28), none, .mov (.t 4), []⟩, ⟨1, (some 29), none, .len (.t 28), []⟩, ⟨2, (some 30), none, .mov (.t 1), []⟩, ⟨3, (some 31), none, .bin .neq (.t 29) (.t 30), []⟩]) (.ite (.t 31) (.seq (.ops [⟨0, (some 10), none, .mov (.c (.int .i64 0)), []⟩, ⟨1, (some 11), none, .mov (.c (.slice none 0 0)), []⟩, ⟨2, (some 12), none, .mov (.c (.int .i64 160)), []⟩]) .ret) .skip)) (.seq (.ops [⟨0, (some 33), none, .mov (.t 3), []⟩, ⟨1, (some 34), none, .call (.c (.func (.func 34) #[] #[])) [.t 33], []⟩, ⟨2, (some 32), none, .mov (.t 34), []⟩, ⟨3, (some 35), none, .ext (.t 32) 0, []⟩, ⟨4, (some 36), none, .ext (.t 32) 1, []⟩, ⟨5, (some 37), none, .ext (.t 32) 2, []⟩, ⟨6, (some 14), none, .mov (.t 35), []⟩, ⟨7, (some 15), none, .mov (.t 36), []⟩, ⟨8, (some 16), none, .mov (.t 37), []⟩]) (.seq (.seq (.ops [⟨0, (some 38), none, .mov (.t 15), []⟩, ⟨1, (some 39), none, .len (.t 38), []⟩, ⟨2, (some 40), none, .bin .gtr (.t 39) (.c (.int .i64 0)), []⟩]) (.ite (.t 40) (.seq (.ops [⟨0, (some 10), none, .mov (.c (.int .i64 0)), []⟩, ⟨1, (some 11), none, .mov (.c (.slice none 0 0)), []⟩, ⟨2, (some 12), none, .mov (.c (.int .i64 161)), []⟩]) .ret) .skip)) (.seq (.ops [⟨0, (some 17), none, .mov (.c (.slice none 0 0)), []⟩]) (.seq (.seq (.ops [⟨0, (some 41), none, .mov (.t 4), []⟩, ⟨1, (some 42), none, .len (.t 41), []⟩, ⟨2, (some 43), none, .mov (.c (.int .i64 0)), []⟩]) (.block 0 (.loop (.seq (.ops [⟨0, (some 44), none, .bin .lss (.t 43) (.t 42), []⟩]) (.seq (.ite (.t 44) .skip (.exit 0)) (.seq (.block 1 (.seq (.ops [⟨0, (some 45), none, .mov (.t 43), []⟩, ⟨1, (some 46), none, .ixs 1 (.t 41) (.t 43), []⟩, ⟨2, (some 47), none, .ld (.t 46), []⟩, ⟨3, (some 18), none, .mov (.t 45), []⟩, ⟨4, (some 19), none, .mov (.t 47), []⟩]) (.seq (.ops [⟨0, (some 48), none, .mov (.t 19), []⟩, ⟨1, (some 49), none, .len (.t 48), []⟩, ⟨2, (some 50), none, .bin .gtr (.t 49) (.c (.int .i64 0)), []⟩]) (.ite (.t 50) (.seq (.ops [⟨0, (some 51), none, .mov (.t 17), []⟩, ⟨1, (some 52), none, .mov (.t 18), []⟩, ⟨2, (some 53), none, .bsl 3 1 [.int .i64 0] [(0, (1, .t 52))], []⟩, ⟨3, (some 54), none, .app 3 8 [.int .i64 0] (.t 51) (.t 53), []⟩, ⟨4, (some 17), none, .mov (.t 54), []⟩]) (.ops [⟨0, (some 55), none, .mov (.t 16), []⟩, ⟨1, (some 56), none, .mov (.t 55), []⟩, ⟨2, (some 57), (some (56, true)), .mov (.t 19), []⟩, ⟨3, (some 58), (some (56, true)), .len (.t 57), []⟩, ⟨4, (some 59), (some (56, true)), .mov (.t 14), []⟩, ⟨5, (some 60), (some (56, true)), .bin .eql (.t 58) (.t 59), []⟩, ⟨6, (some 61), none, .pick (.t 56) (.t 60) (.c (.bool false)), []⟩, ⟨7, (some 16), none, .mov (.t 61), []⟩])) .skip)))) (.ops [⟨0, (some 62), none, .bin .add (.t 43) (.c (.int .i64 1)), []⟩, ⟨1, (some 43), none, .mov (.t 62), []⟩]))))))) (.seq (.block 2 (.seq (.ops [⟨0, (some 64), none, .mov (.t 16), []⟩, ⟨1, (some 65), none, .un .not (.t 64), []⟩, ⟨2, (some 63), none, .mov (.t 65), []⟩]) (.ite (.t 63) (.seq (.ops [⟨0, (some 10), none, .mov (.c (.int .i64 0)), []⟩, ⟨1, (some 11), none, .mov (.c (.slice none 0 0)), []⟩, ⟨2, (some 12), none, .mov (.c (.int .i64 162)), []⟩]) .ret) (.seq (.ops [⟨0, (some 67), none, .mov (.t 0), []⟩, ⟨1, (some 68), none, .mov (.t 14), []⟩, ⟨2, (some 69), none, .call (.c (.func (.func 30) #[] #[])) [.t 67, .t 68], []⟩, ⟨3, (some 66), none, .mov (.t 69), []⟩]) (.ite (.t 66) (.seq (.ops [⟨0, (some 10), none, .mov (.c (.int .i64 0)), []⟩, ⟨1, (some 11), none, .mov (.c (.slice none 0 0)), []⟩, ⟨2, (some 12), none, .mov (.c (.int .i64 8)), []⟩]) .ret) .skip))))) (.seq (.ops [⟨0, (some 70), none, .mov (.t 14), []⟩, ⟨1, (some 71), none, .mov (.t 17), []⟩, ⟨2, (some 10), none, .mov (.t 70), []⟩, ⟨3, (some 11), none, .mov (.t 71), []⟩, ⟨4, (some 12), none, .mov (.c (.int .i64 0)), []⟩]) .ret))))))))
attribute [irreducible] c_shape_Fresh
theorem run_shape_Fresh {args : List Value} {w : World} {K : Value → World → Prop} (hn : args.length ≤ 72) (h : WP Try.prog c_shape_Fresh (endQ [.t 10, .t 11, .t 12] K) (initT args) w) : CallV Try.prog 26 args w K :=
  call_of follows Try.func26 (by kernel_rfl) (by kernel_rfl) hn h
def c_shape_odd : C := .seq (.ops [⟨0, (some 4), none, .mov (.c (.bool false)), []⟩]) (.seq (.ops [⟨0, (some 5), none, .mov (.t 0), []⟩, ⟨1, (some 6), none, .bin .eql (.t 5) (.c (.int .i64 2)), []⟩, ⟨2, (some 7), none, .mov (.t 6), []⟩, ⟨3, (some 8), (some (7, true)), .mov (.t 1), []⟩, ⟨4, (some 9), (some (7, true)), .bin .rem (.t 8) (.c (.int .i64 2)), []⟩, ⟨5, (some 10), (some (7, true)), .bin .eql (.t 9) (.c (.int .i64 1)), []⟩, ⟨6, (some 11), none, .pick (.t 7) (.t 10) (.c (.bool false)), []⟩, ⟨7, (some 4), none, .mov (.t 11), []⟩]) .ret)
attribute [irreducible] c_shape_odd
theorem run_shape_odd {args : List Value} {w : World} {K : Value → World → Prop} (hn : args.length ≤ 12) (h : WP Try.prog c_shape_odd (endQ [.t 4] K) (initT args) w) : CallV Try.prog 30 args w K :=
  call_of follows Try.func30 (by kernel_rfl) (by kernel_rfl) hn h
end Go.Proofs.Ytcbjabnnokjnpaa.Fw
namespace Go.Proofs.Ytcbjabnnokjnpaa.Fw
open Go Go.Fw
def oddB (f : Int) (len : Nat) : Bool := decide (f = 2 ∧ len % 2 = 1)
theorem shape_odd_spec (w : World) (f : Int) (len : Nat) : CallV Try.prog 30 [.int .i64 f, .int .i64 (len : Int)] w fun v w' => v = .bool (oddB f len) ∧ w' = w := by
  refine run_shape_odd (by simp) ?_
  simp only [c_shape_odd, WS, List.getElem_cons_zero, List.getElem_cons_succ, Option.isNone_some, Option.isNone_none, List.getD_cons_zero, List.getD_cons_succ, I.at, atL, atO, atP, evp, evs, retV, ↓reduceIte, Nat.reduceEqDiff, reduceCtorEq]
  have ht : ((len : Nat) : Int).tmod 2 = ((len % 2 : Nat) : Int) := tmod_nat len 2
  by_cases h1 : f = 2
  · by_cases h2 : len % 2 = 1
    · rw [show oddB f len = true from decide_eq_true ⟨h1, h2⟩]
      simp (maxSteps := 1000000) (disch := omega) only [WS, List.getElem_cons_zero, List.getElem_cons_succ, Option.isNone_some, Option.isNone_none, List.getD_cons_zero, List.getD_cons_succ, I.at, atL, atO, atP, evp, evs, retV, ↓reduceIte, Nat.reduceEqDiff, reduceCtorEq, AS, X_rem, ht]
      omega
    · rw [show oddB f len = false from decide_eq_false fun h => h2 h.2]
      simp (maxSteps := 1000000) (disch := omega) only [WS, List.getElem_cons_zero, List.getElem_cons_succ, Option.isNone_some, Option.isNone_none, List.getD_cons_zero, List.getD_cons_succ, I.at, atL, atO, atP, evp, evs, retV, ↓reduceIte, Nat.reduceEqDiff, reduceCtorEq, AS, X_rem, ht]
      omega
  · rw [show oddB f len = false from decide_eq_false fun h => h1 h.1]
    simp (maxSteps := 1000000) (disch := omega) only [WS, List.getElem_cons_zero, List.getElem_cons_succ, Option.isNone_some, Option.isNone_none, List.getD_cons_zero, List.getD_cons_succ, I.at, atL, atO, atP, evp, evs, retV, ↓reduceIte, Nat.reduceEqDiff, reduceCtorEq, AS]
def whl (f k m : Int) (n z len : Nat) (ev : Bool) : Int × Int := if cnt f k m n ≠ 0 then (0, cnt f k m n) else if z ≠ 0 then (0, 161) else if ev = false then (0, 162) else if oddB f len then (0, 8) else ((len : Int), 0)
def prt (f k m : Int) (n z len : Nat) (ev : Bool) : Int × Int := if cnt f k m n ≠ 0 then (0, cnt f k m n) else if len = 0 then (0, 161) else if ev = false then (0, 162) else if oddB f len then (0, 8) else if m < z then (0, 9) else ((len : Int), 0)
theorem shape_Whole_spec (w : World) (f k m : Int) (s : Value) (hs : List Hd) (h : Sl w s hs) : CallV Try.prog 17 [.int .i64 f, .int .i64 k, .int .i64 m, s] w fun v w' => RowKit.Below w.heap.size w w' ∧ ∃ (len : Nat) (ev : Bool), (cnt f k m hs.length = 0 → Lns (hln hs) hs.length len ev) ∧
    v = .tuple #[.int .i64 (whl f k m hs.length (zis (hln hs) hs.length).length len ev).1, .int .i64 (whl f k m hs.length (zis (hln hs) hs.length).length len ev).2] := by
  refine run_shape_Whole (by simp) ?_
  simp only [c_shape_Whole, WS, List.getElem_cons_zero, List.getElem_cons_succ, Option.isNone_some, Option.isNone_none, List.getD_cons_zero, List.getD_cons_succ, I.at, atL, atO, atP, evp, evs, retV, ↓reduceIte, Nat.reduceEqDiff, reduceCtorEq]
  refine X_call0 ((shape_counted_spec w f k m s hs h).mono ?_)
  rintro _ w' ⟨rfl, rfl⟩
  by_cases h0 : cnt f k m hs.length = 0
  rotate_left
  · simp (maxSteps := 1000000) (disch := omega) only [WS, List.getElem_cons_zero, List.getElem_cons_succ, Option.isNone_some, Option.isNone_none, List.getD_cons_zero, List.getD_cons_succ, I.at, atL, atO, atP, evp, evs, retV, ↓reduceIte, Nat.reduceEqDiff, reduceCtorEq, AS]
    exact ⟨RowKit.Below.refl _ _, 0, true, fun e => absurd e h0, by unfold whl; rw [if_pos h0]⟩
  have hb := cnt_ok h0
  rw [h0]
  simp (maxSteps := 1000000) (disch := omega) only [WS, List.getElem_cons_zero, List.getElem_cons_succ, Option.isNone_some, Option.isNone_none, List.getD_cons_zero, List.getD_cons_succ, I.at, atL, atO, atP, evp, evs, retV, ↓reduceIte, Nat.reduceEqDiff, reduceCtorEq, AS, show decide ((0 : Int) = 0) = true from rfl]
  refine X_call0 ((shape_lengths_spec w' s hs h (by omega)).mono ?_)
  rintro _ w2 ⟨len, ev, z, rfl, hL, oz, B⟩
  by_cases hz : (zis (hln hs) hs.length).length = 0
  rotate_left
  · simp (maxSteps := 1000000) (disch := omega) only [WS, List.getElem_cons_zero, List.getElem_cons_succ, Option.isNone_some, Option.isNone_none, List.getD_cons_zero, List.getD_cons_succ, I.at, atL, atO, atP, evp, evs, retV, ↓reduceIte, Nat.reduceEqDiff, reduceCtorEq, AS, oz.sl.Xlen]
    exact ⟨B, len, ev, fun _ => hL, by unfold whl; rw [if_neg (fun e => e h0), if_pos hz]⟩
  cases ev
  · simp (maxSteps := 1000000) (disch := omega) only [WS, List.getElem_cons_zero, List.getElem_cons_succ, Option.isNone_some, Option.isNone_none, List.getD_cons_zero, List.getD_cons_succ, I.at, atL, atO, atP, evp, evs, retV, ↓reduceIte, Nat.reduceEqDiff, reduceCtorEq, AS, oz.sl.Xlen]
    exact ⟨B, len, false, fun _ => hL, by unfold whl; rw [if_neg (fun e => e h0), if_neg (fun e => e hz), if_pos rfl]⟩
  simp (maxSteps := 1000000) (disch := omega) only [WS, List.getElem_cons_zero, List.getElem_cons_succ, Option.isNone_some, Option.isNone_none, List.getD_cons_zero, List.getD_cons_succ, I.at, atL, atO, atP, evp, evs, retV, ↓reduceIte, Nat.reduceEqDiff, reduceCtorEq, AS, oz.sl.Xlen]
  refine X_call0 ((shape_odd_spec w2 f len).mono ?_)
  rintro _ w3 ⟨rfl, rfl⟩
  by_cases ho : oddB f len = true
  · rw [ho]
    simp (maxSteps := 1000000) (disch := omega) only [WS, List.getElem_cons_zero, List.getElem_cons_succ, Option.isNone_some, Option.isNone_none, List.getD_cons_zero, List.getD_cons_succ, I.at, atL, atO, atP, evp, evs, retV, ↓reduceIte, Nat.reduceEqDiff, reduceCtorEq, AS]
    exact ⟨B, len, true, fun _ => hL, by unfold whl; rw [if_neg (fun e => e h0), if_neg (fun e => e hz), if_neg (by simp), if_pos ho]⟩
  · rw [Bool.not_eq_true] at ho
    rw [ho]
    simp (maxSteps := 1000000) (disch := omega) only [WS, List.getElem_cons_zero, List.getElem_cons_succ, Option.isNone_some, Option.isNone_none, List.getD_cons_zero, List.getD_cons_succ, I.at, atL, atO, atP, evp, evs, retV, ↓reduceIte, Nat.reduceEqDiff, reduceCtorEq, AS]
    exact ⟨B, len, true, fun _ => hL, by unfold whl; rw [if_neg (fun e => e h0), if_neg (fun e => e hz), if_neg (by simp), if_neg (by simp [ho])]⟩
theorem shape_Partial_spec (w : World) (f k m : Int) (s : Value) (hs : List Hd) (h : Sl w s hs) : CallV Try.prog 24 [.int .i64 f, .int .i64 k, .int .i64 m, s] w fun v w' => RowKit.Below w.heap.size w w' ∧ ∃ (len : Nat) (ev : Bool) (z : Value), (cnt f k m hs.length = 0 → Lns (hln hs) hs.length len ev) ∧
    v = .tuple #[.int .i64 (prt f k m hs.length (zis (hln hs) hs.length).length len ev).1, z, .int .i64 (prt f k m hs.length (zis (hln hs) hs.length).length len ev).2] ∧ Ow w.heap.size w' z (if (prt f k m hs.length (zis (hln hs) hs.length).length len ev).2 = 0 then zis (hln hs) hs.length else []) := by
  refine run_shape_Partial (by simp) ?_
  simp only [c_shape_Partial, WS, List.getElem_cons_zero, List.getElem_cons_succ, Option.isNone_some, Option.isNone_none, List.getD_cons_zero, List.getD_cons_succ, I.at, atL, atO, atP, evp, evs, retV, ↓reduceIte, Nat.reduceEqDiff, reduceCtorEq]
  refine X_call0 ((shape_counted_spec w f k m s hs h).mono ?_)
  rintro _ w' ⟨rfl, rfl⟩
  by_cases h0 : cnt f k m hs.length = 0
  rotate_left
  · simp (maxSteps := 1000000) (disch := omega) only [WS, List.getElem_cons_zero, List.getElem_cons_succ, Option.isNone_some, Option.isNone_none, List.getD_cons_zero, List.getD_cons_succ, I.at, atL, atO, atP, evp, evs, retV, ↓reduceIte, Nat.reduceEqDiff, reduceCtorEq, AS]
    have e : prt f k m hs.length (zis (hln hs) hs.length).length 0 true = (0, cnt f k m hs.length) := by unfold prt; rw [if_pos h0]
    exact ⟨RowKit.Below.refl _ _, 0, true, _, fun e => absurd e h0, by rw [e], by rw [e, if_neg h0]; exact Ow.nil _ _⟩
  have hb := cnt_ok h0
  rw [h0]
  simp (maxSteps := 1000000) (disch := omega) only [WS, List.getElem_cons_zero, List.getElem_cons_succ, Option.isNone_some, Option.isNone_none, List.getD_cons_zero, List.getD_cons_succ, I.at, atL, atO, atP, evp, evs, retV, ↓reduceIte, Nat.reduceEqDiff, reduceCtorEq, AS, show decide ((0 : Int) = 0) = true from rfl]
  refine X_call0 ((shape_lengths_spec w' s hs h (by omega)).mono ?_)
  rintro _ w2 ⟨len, ev, z, rfl, hL, oz, B⟩
  by_cases hz : len = 0
  · simp (maxSteps := 1000000) (disch := omega) only [WS, List.getElem_cons_zero, List.getElem_cons_succ, Option.isNone_some, Option.isNone_none, List.getD_cons_zero, List.getD_cons_succ, I.at, atL, atO, atP, evp, evs, retV, ↓reduceIte, Nat.reduceEqDiff, reduceCtorEq, AS]
    have e : prt f k m hs.length (zis (hln hs) hs.length).length len ev = (0, 161) := by unfold prt; rw [if_neg (fun e => e h0), if_pos hz]
    exact ⟨B, len, ev, _, fun _ => hL, by rw [e], by rw [e, if_neg (by decide)]; exact Ow.nil _ _⟩
  cases ev
  · simp (maxSteps := 1000000) (disch := omega) only [WS, List.getElem_cons_zero, List.getElem_cons_succ, Option.isNone_some, Option.isNone_none, List.getD_cons_zero, List.getD_cons_succ, I.at, atL, atO, atP, evp, evs, retV, ↓reduceIte, Nat.reduceEqDiff, reduceCtorEq, AS]
    have e : prt f k m hs.length (zis (hln hs) hs.length).length len false = (0, 162) := by unfold prt; rw [if_neg (fun e => e h0), if_neg hz, if_pos rfl]
    exact ⟨B, len, false, _, fun _ => hL, by rw [e], by rw [e, if_neg (by decide)]; exact Ow.nil _ _⟩
  simp (maxSteps := 1000000) (disch := omega) only [WS, List.getElem_cons_zero, List.getElem_cons_succ, Option.isNone_some, Option.isNone_none, List.getD_cons_zero, List.getD_cons_succ, I.at, atL, atO, atP, evp, evs, retV, ↓reduceIte, Nat.reduceEqDiff, reduceCtorEq, AS]
  refine X_call0 ((shape_odd_spec w2 f len).mono ?_)
  rintro _ w3 ⟨rfl, rfl⟩
  by_cases ho : oddB f len = true
  · rw [ho]
    simp (maxSteps := 1000000) (disch := omega) only [WS, List.getElem_cons_zero, List.getElem_cons_succ, Option.isNone_some, Option.isNone_none, List.getD_cons_zero, List.getD_cons_succ, I.at, atL, atO, atP, evp, evs, retV, ↓reduceIte, Nat.reduceEqDiff, reduceCtorEq, AS]
    have e : prt f k m hs.length (zis (hln hs) hs.length).length len true = (0, 8) := by unfold prt; rw [if_neg (fun e => e h0), if_neg hz, if_neg (by simp), if_pos ho]
    exact ⟨B, len, true, _, fun _ => hL, by rw [e], by rw [e, if_neg (by decide)]; exact Ow.nil _ _⟩
  rw [Bool.not_eq_true] at ho
  rw [ho]
  by_cases hm : m < ((zis (hln hs) hs.length).length : Int)
  · simp (maxSteps := 1000000) (disch := omega) only [WS, List.getElem_cons_zero, List.getElem_cons_succ, Option.isNone_some, Option.isNone_none, List.getD_cons_zero, List.getD_cons_succ, I.at, atL, atO, atP, evp, evs, retV, ↓reduceIte, Nat.reduceEqDiff, reduceCtorEq, AS, oz.sl.Xlen]
    have e : prt f k m hs.length (zis (hln hs) hs.length).length len true = (0, 9) := by unfold prt; rw [if_neg (fun e => e h0), if_neg hz, if_neg (by simp), if_neg (by simp [ho]), if_pos hm]
    exact ⟨B, len, true, _, fun _ => hL, by rw [e], by rw [e, if_neg (by decide)]; exact Ow.nil _ _⟩
  · simp (maxSteps := 1000000) (disch := omega) only [WS, List.getElem_cons_zero, List.getElem_cons_succ, Option.isNone_some, Option.isNone_none, List.getD_cons_zero, List.getD_cons_succ, I.at, atL, atO, atP, evp, evs, retV, ↓reduceIte, Nat.reduceEqDiff, reduceCtorEq, AS, oz.sl.Xlen]
    have e : prt f k m hs.length (zis (hln hs) hs.length).length len true = ((len : Int), 0) := by unfold prt; rw [if_neg (fun e => e h0), if_neg hz, if_neg (by simp), if_neg (by simp [ho]), if_neg hm]
    exact ⟨B, len, true, _, fun _ => hL, by rw [e], by rw [e, if_pos rfl]; exact oz⟩
theorem shape_Fresh_spec (w : World) (f m : Int) (K : Nat) (s g : Value) (hs : List Hd) (h : Sl w s hs) (hg : Sl w g (List.replicate K hdn)) (hK : K ≤ 70000) : CallV Try.prog 26 [.int .i64 f, .int .i64 (K : Int), .int .i64 m, s, g] w fun v w' => RowKit.Below w.heap.size w w' ∧ ∃ (len : Nat) (ev : Bool), (cnt f K m hs.length = 0 → Lns (hln hs) hs.length len ev) ∧
    v = .tuple #[.int .i64 (whl f K m hs.length (zis (hln hs) hs.length).length len ev).1, .slice none 0 0, .int .i64 (whl f K m hs.length (zis (hln hs) hs.length).length len ev).2] := by
  refine run_shape_Fresh (by simp) ?_
  simp only [c_shape_Fresh, WS, List.getElem_cons_zero, List.getElem_cons_succ, Option.isNone_some, Option.isNone_none, List.getD_cons_zero, List.getD_cons_succ, I.at, atL, atO, atP, evp, evs, retV, ↓reduceIte, Nat.reduceEqDiff, reduceCtorEq]
  refine X_call0 ((shape_counted_spec w f K m s hs h).mono ?_)
  rintro _ w' ⟨rfl, rfl⟩
  by_cases h0 : cnt f K m hs.length = 0
  rotate_left
  · simp (maxSteps := 1000000) (disch := omega) only [WS, List.getElem_cons_zero, List.getElem_cons_succ, Option.isNone_some, Option.isNone_none, List.getD_cons_zero, List.getD_cons_succ, I.at, atL, atO, atP, evp, evs, retV, ↓reduceIte, Nat.reduceEqDiff, reduceCtorEq, AS]
    exact ⟨RowKit.Below.refl _ _, 0, true, fun e => absurd e h0, by unfold whl; rw [if_pos h0]⟩
  have hb := cnt_ok h0
  rw [h0]
  simp (maxSteps := 1000000) (disch := omega) only [WS, List.getElem_cons_zero, List.getElem_cons_succ, Option.isNone_some, Option.isNone_none, List.getD_cons_zero, List.getD_cons_succ, I.at, atL, atO, atP, evp, evs, retV, ↓reduceIte, Nat.reduceEqDiff, reduceCtorEq, AS, show decide ((0 : Int) = 0) = true from rfl, hg.Xlen, List.length_replicate, show ∀ e : Int, decide (e = e) = true from fun e => decide_eq_true rfl]
  refine X_call0 ((shape_lengths_spec w' s hs h (by omega)).mono ?_)
  rintro _ w2 ⟨len, ev, z, rfl, hL, oz, B⟩
  by_cases hz : (zis (hln hs) hs.length).length = 0
  rotate_left
  · simp (maxSteps := 1000000) (disch := omega) only [WS, List.getElem_cons_zero, List.getElem_cons_succ, Option.isNone_some, Option.isNone_none, List.getD_cons_zero, List.getD_cons_succ, I.at, atL, atO, atP, evp, evs, retV, ↓reduceIte, Nat.reduceEqDiff, reduceCtorEq, AS, oz.sl.Xlen]
    exact ⟨B, len, ev, fun _ => hL, by unfold whl; rw [if_neg (fun e => e h0), if_pos hz]⟩
  have hg2 := hg.up B
  simp (maxSteps := 1000000) (disch := omega) only [WS, List.getElem_cons_zero, List.getElem_cons_succ, Option.isNone_some, Option.isNone_none, List.getD_cons_zero, List.getD_cons_succ, I.at, atL, atO, atP, evp, evs, retV, ↓reduceIte, Nat.reduceEqDiff, reduceCtorEq, AS, oz.sl.Xlen, hg2.Xlen, List.length_replicate]
  refine loop_of (fun t w' => w' = w2 ∧ t 0 = .int .i64 f ∧ t 14 = .int .i64 (len : Int) ∧ t 16 = .bool ev ∧ t 17 = .slice none 0 0 ∧ t 41 = g ∧ t 42 = .int .i64 (K : Int) ∧ ∃ i : Nat, t 43 = .int .i64 (i : Int) ∧ i ≤ K) (fun t _ => K - (toI (t 43)).toNat) ⟨rfl, by simp only [WS, List.getElem_cons_zero, List.getElem_cons_succ, Option.isNone_some, Option.isNone_none, List.getD_cons_zero, List.getD_cons_succ, I.at, atL, atO, atP, evp, evs, retV, ↓reduceIte, Nat.reduceEqDiff, reduceCtorEq], by simp only [WS, List.getElem_cons_zero, List.getElem_cons_succ, Option.isNone_some, Option.isNone_none, List.getD_cons_zero, List.getD_cons_succ, I.at, atL, atO, atP, evp, evs, retV, ↓reduceIte, Nat.reduceEqDiff, reduceCtorEq], by simp only [WS, List.getElem_cons_zero, List.getElem_cons_succ, Option.isNone_some, Option.isNone_none, List.getD_cons_zero, List.getD_cons_succ, I.at, atL, atO, atP, evp, evs, retV, ↓reduceIte, Nat.reduceEqDiff, reduceCtorEq], by simp only [WS, List.getElem_cons_zero, List.getElem_cons_succ, Option.isNone_some, Option.isNone_none, List.getD_cons_zero, List.getD_cons_succ, I.at, atL, atO, atP, evp, evs, retV, ↓reduceIte, Nat.reduceEqDiff, reduceCtorEq], by simp only [WS, List.getElem_cons_zero, List.getElem_cons_succ, Option.isNone_some, Option.isNone_none, List.getD_cons_zero, List.getD_cons_succ, I.at, atL, atO, atP, evp, evs, retV, ↓reduceIte, Nat.reduceEqDiff, reduceCtorEq], by simp only [WS, List.getElem_cons_zero, List.getElem_cons_succ, Option.isNone_some, Option.isNone_none, List.getD_cons_zero, List.getD_cons_succ, I.at, atL, atO, atP, evp, evs, retV, ↓reduceIte, Nat.reduceEqDiff, reduceCtorEq], 0, rfl, by omega⟩ ?_
  rintro t w3 ⟨rfl, t0, t14, t16, t17, t41, t42, i, t43, hi⟩
  by_cases hlt : i < K
  · have hlt2 : i < (List.replicate K hdn).length := by rw [List.length_replicate]; exact hlt
    simp (maxSteps := 1000000) (disch := omega) only [WS, List.getElem_cons_zero, List.getElem_cons_succ, Option.isNone_some, Option.isNone_none, List.getD_cons_zero, List.getD_cons_succ, I.at, atL, atO, atP, evp, evs, retV, ↓reduceIte, Nat.reduceEqDiff, reduceCtorEq, AS, t0, t14, t16, t17, t41, t42, t43, hg2.Xix hlt2, hg2.Xld hlt2, List.getElem_replicate, show Cell.v hdn = Value.slice none 0 0 from rfl, X_lenS, show decide ((0 : Int) < ((0 : Nat) : Int)) = false from rfl]
    exact ⟨⟨i + 1, rfl, by omega⟩, by omega⟩
  obtain rfl : i = K := by omega
  cases ev
  · simp (maxSteps := 1000000) (disch := omega) only [WS, List.getElem_cons_zero, List.getElem_cons_succ, Option.isNone_some, Option.isNone_none, List.getD_cons_zero, List.getD_cons_succ, I.at, atL, atO, atP, evp, evs, retV, ↓reduceIte, Nat.reduceEqDiff, reduceCtorEq, AS, t0, t14, t16, t17, t41, t42, t43]
    exact ⟨B, len, false, fun _ => hL, by unfold whl; rw [if_neg (fun e => e h0), if_neg (fun e => e hz), if_pos rfl]⟩
  simp (maxSteps := 1000000) (disch := omega) only [WS, List.getElem_cons_zero, List.getElem_cons_succ, Option.isNone_some, Option.isNone_none, List.getD_cons_zero, List.getD_cons_succ, I.at, atL, atO, atP, evp, evs, retV, ↓reduceIte, Nat.reduceEqDiff, reduceCtorEq, AS, t0, t14, t16, t17, t41, t42, t43]
  refine X_call0 ((shape_odd_spec w3 f len).mono ?_)
  rintro _ w4 ⟨rfl, rfl⟩
  by_cases ho : oddB f len = true
  · rw [ho]
    simp (maxSteps := 1000000) (disch := omega) only [WS, List.getElem_cons_zero, List.getElem_cons_succ, Option.isNone_some, Option.isNone_none, List.getD_cons_zero, List.getD_cons_succ, I.at, atL, atO, atP, evp, evs, retV, ↓reduceIte, Nat.reduceEqDiff, reduceCtorEq, AS, t14, t17]
    exact ⟨B, len, true, fun _ => hL, by unfold whl; rw [if_neg (fun e => e h0), if_neg (fun e => e hz), if_neg (by simp), if_pos ho]⟩
  · rw [Bool.not_eq_true] at ho
    rw [ho]
    simp (maxSteps := 1000000) (disch := omega) only [WS, List.getElem_cons_zero, List.getElem_cons_succ, Option.isNone_some, Option.isNone_none, List.getD_cons_zero, List.getD_cons_succ, I.at, atL, atO, atP, evp, evs, retV, ↓reduceIte, Nat.reduceEqDiff, reduceCtorEq, AS, t14, t17]
    exact ⟨B, len, true, fun _ => hL, by unfold whl; rw [if_neg (fun e => e h0), if_neg (fun e => e hz), if_neg (by simp), if_neg (by simp [ho])]⟩
end Go.Proofs.Ytcbjabnnokjnpaa.Fw
