import Derived.Test.YtbaljbadlfopgaaProg
import Derived.Test.YtbaljbadlfopgaaFwTL
import Derived.Test.YtbaljbadlfopgaaSMcL
import Derived.Test.YtbaljbadlfopgaaSMnL
set_option linter.all false
set_option linter.unusedVariables false
set_option linter.unusedSimpArgs false
set_option maxRecDepth 100000
set_option maxHeartbeats 1000000
namespace Go.Proofs.Ytbaljbadlfopgaa.Fw
open Go Go.Fw Go.Proofs
attribute [local irreducible] stepI
def c_cullettop_WholeLocates : C := .seq (.ops [⟨0, (some 4), none, .mov (.c (.bool false)), []⟩]) (.seq (.ops [⟨0, (some 26), none, .bsl 3 1 [.int .i64 0] [(0, (1, .c (.int .i64 0)))], []⟩, ⟨1, (some 27), none, .call (.c (.func (.func 39) #[] #[])) [.t 26, .c (.int .i64 1)], []⟩, ⟨2, (some 25), none, .mov (.t 27), []⟩, ⟨3, (some 28), none, .ext (.t 25) 0, []⟩, ⟨4, (some 29), none, .ext (.t 25) 1, []⟩, ⟨5, (some 5), none, .mov (.t 28), []⟩, ⟨6, (some 6), none, .mov (.t 29), []⟩]) (.seq (.seq (.ops [⟨0, (some 30), none, .mov (.t 6), []⟩, ⟨1, (some 31), none, .bin .neq (.t 30) (.c (.int .i64 0)), []⟩, ⟨2, (some 32), none, .mov (.t 31), []⟩, ⟨3, (some 33), (some (32, false)), .mov (.t 5), []⟩, ⟨4, (some 34), (some (32, false)), .bsl 73 2 [.int .u16 0] [(0, (1, .c (.int .u16 1))), (1, (1, .c (.int .u16 1)))], []⟩, ⟨5, (some 35), (some (32, false)), .call (.c (.func (.func 40) #[] #[])) [.t 33, .t 34], []⟩, ⟨6, (some 36), (some (32, false)), .un .not (.t 35), []⟩, ⟨7, (some 37), none, .pick (.t 32) (.c (.bool true)) (.t 36), []⟩]) (.ite (.t 37) (.seq (.ops [⟨0, (some 4), none, .mov (.c (.bool false)), []⟩]) .ret) .skip)) (.seq (.ops [⟨0, (some 38), none, .mov (.t 1), []⟩, ⟨1, (some 39), none, .cnv .u64 (.t 38), []⟩, ⟨2, (some 40), none, .bin .rem (.t 39) (.c (.int .u64 11)), []⟩, ⟨3, (some 41), none, .cnv .i64 (.t 40), []⟩, ⟨4, (some 7), none, .mov (.t 41), []⟩]) (.seq (.ops [⟨0, (some 42), none, .mov (.t 7), []⟩, ⟨1, (some 43), none, .bin .shl (.c (.int .i64 1)) (.t 42), []⟩, ⟨2, (some 8), none, .mov (.t 43), []⟩]) (.seq (.ops [⟨0, (some 44), none, .mov (.t 0), []⟩, ⟨1, (some 45), none, .len (.t 44), []⟩, ⟨2, (some 46), none, .mov (.t 8), []⟩, ⟨3, (some 47), none, .bin .add (.t 46) (.c (.int .i64 1)), []⟩, ⟨4, (some 48), none, .bin .rem (.t 45) (.t 47), []⟩, ⟨5, (some 9), none, .mov (.t 48), []⟩]) (.seq (.seq (.ops [⟨0, (some 49), none, .mov (.t 9), []⟩, ⟨1, (some 50), none, .bin .gtr (.t 49) (.c (.int .i64 200)), []⟩]) (.ite (.t 50) (.ops [⟨0, (some 9), none, .mov (.c (.int .i64 200)), []⟩]) .skip)) (.seq (.ops [⟨0, (some 51), none, .mov (.t 8), []⟩, ⟨1, (some 52), none, .mov (.t 9), []⟩, ⟨2, (some 53), none, .mov (.t 0), []⟩, ⟨3, (some 54), none, .call (.c (.func (.func 41) #[] #[])) [.t 51, .t 52, .t 53], []⟩, ⟨4, (some 10), none, .mov (.t 54), []⟩]) (.seq (.ops [⟨0, (some 56), none, .mov (.t 10), []⟩, ⟨1, (some 57), none, .mov (.t 7), []⟩, ⟨2, (some 58), none, .call (.c (.func (.func 39) #[] #[])) [.t 56, .t 57], []⟩, ⟨3, (some 55), none, .mov (.t 58), []⟩, ⟨4, (some 59), none, .ext (.t 55) 0, []⟩, ⟨5, (some 60), none, .ext (.t 55) 1, []⟩, ⟨6, (some 11), none, .mov (.t 59), []⟩, ⟨7, (some 6), none, .mov (.t 60), []⟩]) (.seq (.seq (.ops [⟨0, (some 61), none, .mov (.t 6), []⟩, ⟨1, (some 62), none, .bin .neq (.t 61) (.c (.int .i64 0)), []⟩, ⟨2, (some 63), none, .mov (.t 62), []⟩, ⟨3, (some 64), (some (63, false)), .mov (.t 11), []⟩, ⟨4, (some 65), (some (63, false)), .len (.t 64), []⟩, ⟨5, (some 66), (some (63, false)), .mov (.t 8), []⟩, ⟨6, (some 67), (some (63, false)), .bin .neq (.t 65) (.t 66), []⟩, ⟨7, (some 68), none, .pick (.t 63) (.c (.bool true)) (.t 67), []⟩]) (.ite (.t 68) (.seq (.ops [⟨0, (some 4), none, .mov (.c (.bool false)), []⟩]) .ret) .skip)) (.seq (.ops [⟨0, (some 69), none, .call (.c (.func (.func 36) #[] #[])) [], []⟩, ⟨1, (some 12), none, .mov (.t 69), []⟩]) (.seq (.ops [⟨0, (some 13), none, .mov (.c (.slice none 0 0)), []⟩]) (.seq (.ops [⟨0, (some 70), none, .mov (.t 8), []⟩, ⟨1, (some 71), none, .mks 3 8 [.int .i64 0] (.t 70) (.t 70), []⟩, ⟨2, (some 14), none, .mov (.t 71), []⟩]) (.seq (.seq (.ops [⟨0, (some 72), none, .mov (.t 10), []⟩, ⟨1, (some 73), none, .len (.t 72), []⟩, ⟨2, (some 74), none, .mov (.c (.int .i64 0)), []⟩]) (.block 0 (.loop (.seq (.ops [⟨0, (some 75), none, .bin .lss (.t 74) (.t 73), []⟩]) (.seq (.ite (.t 75) .skip (.exit 0)) (.seq (.block 1 (.seq (.ops [⟨0, (some 76), none, .ixs 1 (.t 72) (.t 74), []⟩, ⟨1, (some 77), none, .ld (.t 76), []⟩, ⟨2, (some 16), none, .mov (.t 77), []⟩]) (.seq (.ops [⟨0, (some 79), none, .mov (.t 16), []⟩, ⟨1, (some 80), none, .call (.c (.func (.func 35) #[] #[])) [.t 79], []⟩, ⟨2, (some 78), none, .mov (.t 80), []⟩, ⟨3, (some 81), none, .ext (.t 78) 0, []⟩, ⟨4, (some 82), none, .ext (.t 78) 1, []⟩, ⟨5, (some 17), none, .mov (.t 81), []⟩, ⟨6, (some 18), none, .mov (.t 82), []⟩]) (.seq (.seq (.ops [⟨0, (some 83), none, .mov (.t 18), []⟩, ⟨1, (some 84), none, .bin .neq (.t 83) (.c (.int .i64 0)), []⟩]) (.ite (.t 84) (.seq (.ops [⟨0, (some 4), none, .mov (.c (.bool false)), []⟩]) .ret) .skip)) (.seq (.ops [⟨0, (some 85), none, .mov (.t 13), []⟩, ⟨1, (some 86), none, .mov (.t 17), []⟩, ⟨2, (some 87), none, .bsl 73 1 [.int .u16 0] [(0, (1, .t 86))], []⟩, ⟨3, (some 88), none, .app 73 2 [.int .u16 0] (.t 85) (.t 87), []⟩, ⟨4, (some 13), none, .mov (.t 88), []⟩]) (.ops [⟨0, (some 89), none, .mov (.t 14), []⟩, ⟨1, (some 90), none, .mov (.t 16), []⟩, ⟨2, (some 91), none, .ixs 1 (.t 89) (.t 90), []⟩, ⟨3, none, none, .st (.t 91) (.c (.int .i64 1)), []⟩])))))) (.ops [⟨0, (some 92), none, .bin .add (.t 74) (.c (.int .i64 1)), []⟩, ⟨1, (some 74), none, .mov (.t 92), []⟩]))))))) (.seq (.ops [⟨0, (some 94), none, .mov (.t 12), []⟩, ⟨1, (some 95), none, .mov (.t 13), []⟩, ⟨2, (some 96), none, .call (.c (.func (.func 42) #[] #[])) [.t 94, .t 95], []⟩, ⟨3, (some 93), none, .mov (.t 96), []⟩, ⟨4, (some 97), none, .ext (.t 93) 0, []⟩, ⟨5, (some 98), none, .ext (.t 93) 1, []⟩, ⟨6, (some 19), none, .mov (.t 97), []⟩, ⟨7, (some 6), none, .mov (.t 98), []⟩]) (.seq (.seq (.ops [⟨0, (some 99), none, .mov (.t 6), []⟩, ⟨1, (some 100), none, .bin .neq (.t 99) (.c (.int .i64 0)), []⟩]) (.ite (.t 100) (.seq (.ops [⟨0, (some 4), none, .mov (.c (.bool false)), []⟩]) .ret) .skip)) (.seq (.ops [⟨0, (some 101), none, .mov (.t 12), []⟩, ⟨1, (some 102), none, .mov (.t 19), []⟩, ⟨2, (some 103), none, .call (.c (.func (.func 43) #[] #[])) [.t 101, .t 102], []⟩, ⟨3, (some 20), none, .mov (.t 103), []⟩]) (.seq (.seq (.ops [⟨0, (some 21), none, .mov (.c (.int .i64 0)), []⟩]) (.block 2 (.loop (.seq (.seq (.ops [⟨0, (some 104), none, .mov (.t 21), []⟩, ⟨1, (some 105), none, .mov (.t 8), []⟩, ⟨2, (some 106), none, .bin .lss (.t 104) (.t 105), []⟩]) (.ite (.t 106) .skip (.exit 2))) (.seq (.block 3 (.seq (.ops [⟨0, (some 110), none, .mov (.t 21), []⟩, ⟨1, (some 111), none, .call (.c (.func (.func 35) #[] #[])) [.t 110], []⟩, ⟨2, (some 109), none, .mov (.t 111), []⟩, ⟨3, (some 112), none, .ext (.t 109) 0, []⟩, ⟨4, (some 113), none, .ext (.t 109) 1, []⟩, ⟨5, (some 22), none, .mov (.t 112), []⟩, ⟨6, (some 23), none, .mov (.t 113), []⟩]) (.seq (.ops [⟨0, (some 114), none, .mov (.t 12), []⟩, ⟨1, (some 115), none, .mov (.t 19), []⟩, ⟨2, (some 116), none, .mov (.t 22), []⟩, ⟨3, (some 117), none, .call (.c (.func (.func 38) #[] #[])) [.t 114, .t 115, .t 116], []⟩, ⟨4, (some 24), none, .mov (.t 117), []⟩]) (.seq (.seq (.ops [⟨0, (some 118), none, .mov (.t 14), []⟩, ⟨1, (some 119), none, .mov (.t 21), []⟩, ⟨2, (some 120), none, .ixs 1 (.t 118) (.t 119), []⟩, ⟨3, (some 121), none, .ld (.t 120), []⟩, ⟨4, (some 122), none, .bin .eql (.t 121) (.c (.int .i64 1)), []⟩]) (.ite (.t 122) (.ops [⟨0, (some 123), none, .mov (.t 12), []⟩, ⟨1, (some 124), none, .mov (.t 20), []⟩, ⟨2, (some 125), none, .mov (.t 22), []⟩, ⟨3, (some 126), none, .call (.c (.func (.func 38) #[] #[])) [.t 123, .t 124, .t 125], []⟩, ⟨4, (some 24), none, .mov (.t 126), []⟩]) .skip)) (.seq (.ops [⟨0, (some 127), none, .mov (.t 24), []⟩, ⟨1, (some 128), none, .mov (.t 11), []⟩, ⟨2, (some 129), none, .mov (.t 21), []⟩, ⟨3, (some 130), none, .ixs 1 (.t 128) (.t 129), []⟩, ⟨4, (some 131), none, .ld (.t 130), []⟩, ⟨5, (some 132), none, .bin .neq (.t 127) (.t 131), []⟩]) (.ite (.t 132) (.seq (.ops [⟨0, (some 4), none, .mov (.c (.bool false)), []⟩]) .ret) .skip)))))) (.ops [⟨0, (some 107), none, .mov (.t 21), []⟩, ⟨1, (some 108), none, .bin .add (.t 107) (.c (.int .i64 1)), []⟩, ⟨2, (some 21), none, .mov (.t 108), []⟩])))))) (.seq (.ops [⟨0, (some 4), none, .mov (.c (.bool true)), []⟩]) .ret))))))))))))))))))
attribute [irreducible] c_cullettop_WholeLocates
theorem run_cullettop_WholeLocates {args : List Value} {w : World} {K : Value → World → Prop} (hn : args.length ≤ 133) (h : WP Try.prog c_cullettop_WholeLocates (endQ [.t 4] K) (initT args) w) : CallV Try.prog 11 args w K :=
  call_of follows Try.func11 (by kernel_rfl) (by kernel_rfl) hn h
def c_cullettop_words : C := .seq (.ops [⟨0, (some 4), none, .mov (.c (.bool false)), []⟩]) (.seq (.seq (.ops [⟨0, (some 6), none, .mov (.t 0), []⟩, ⟨1, (some 7), none, .len (.t 6), []⟩, ⟨2, (some 8), none, .mov (.t 1), []⟩, ⟨3, (some 9), none, .len (.t 8), []⟩, ⟨4, (some 10), none, .bin .neq (.t 7) (.t 9), []⟩]) (.ite (.t 10) (.seq (.ops [⟨0, (some 4), none, .mov (.c (.bool false)), []⟩]) .ret) .skip)) (.seq (.seq (.ops [⟨0, (some 11), none, .mov (.t 0), []⟩, ⟨1, (some 12), none, .len (.t 11), []⟩, ⟨2, (some 13), none, .mov (.c (.int .i64 0)), []⟩]) (.block 0 (.loop (.seq (.ops [⟨0, (some 14), none, .bin .lss (.t 13) (.t 12), []⟩]) (.seq (.ite (.t 14) .skip (.exit 0)) (.seq (.block 1 (.seq (.ops [⟨0, (some 15), none, .mov (.t 13), []⟩, ⟨1, (some 5), none, .mov (.t 15), []⟩]) (.seq (.dops [⟨0, (some 16), none, .mov (.t 0), []⟩, ⟨1, (some 17), none, .mov (.t 5), []⟩, ⟨2, (some 18), none, .ixs 1 (.t 16) (.t 17), []⟩, ⟨3, (some 19), none, .ld (.t 18), []⟩, ⟨4, (some 20), none, .mov (.t 1), []⟩, ⟨5, (some 21), none, .mov (.t 5), []⟩, ⟨6, (some 22), none, .ixs 1 (.t 20) (.t 21), []⟩, ⟨7, (some 23), none, .ld (.t 22), []⟩, ⟨8, (some 24), none, .bin .neq (.t 19) (.t 23), []⟩]) (.ite (.t 24) (.seq (.ops [⟨0, (some 4), none, .mov (.c (.bool false)), []⟩]) .ret) .skip)))) (.ops [⟨0, (some 25), none, .bin .add (.t 13) (.c (.int .i64 1)), []⟩, ⟨1, (some 13), none, .mov (.t 25), []⟩]))))))) (.seq (.ops [⟨0, (some 4), none, .mov (.c (.bool true)), []⟩]) .ret)))
attribute [irreducible] c_cullettop_words
theorem run_cullettop_words {args : List Value} {w : World} {K : Value → World → Prop} (hn : args.length ≤ 26) (h : WP Try.prog c_cullettop_words (endQ [.t 4] K) (initT args) w) : CallV Try.prog 40 args w K :=
  call_of follows Try.func40 (by kernel_rfl) (by kernel_rfl) hn h
end Go.Proofs.Ytbaljbadlfopgaa.Fw
namespace Go.Proofs.Ytbaljbadlfopgaa.Fw
open Go Go.Fw
theorem cullettop_words_same (w : World) (s1 s2 : Value) (l : List (El 16)) (h1 : Sl w s1 l) (h2 : Sl w s2 l) (hb : l.length ≤ 70368744175616) :
    CallV Try.prog 40 [s1, s2] w fun v w' => v = .bool true ∧ RowKit.Below w.heap.size w w' := by
  have dt : ∀ e : Int, decide (e = e) = true := fun e => decide_eq_true rfl
  refine run_cullettop_words (by simp) ?_
  simp only [c_cullettop_words, WS, List.getElem_cons_zero, List.getElem_cons_succ, Option.isNone_some, Option.isNone_none, List.getD_cons_zero, List.getD_cons_succ, I.at, atL, atO, atP, evp, evs, retV, ↓reduceIte, Nat.reduceEqDiff, reduceCtorEq]
  have hne : ¬ ((l.length : Int) ≠ (l.length : Int)) := fun h => h rfl
  simp (maxSteps := 1000000) (disch := omega) only [WS, List.getElem_cons_zero, List.getElem_cons_succ, Option.isNone_some, Option.isNone_none, List.getD_cons_zero, List.getD_cons_succ, I.at, atL, atO, atP, evp, evs, retV, ↓reduceIte, Nat.reduceEqDiff, reduceCtorEq, h1.Xlen, h2.Xlen, ne_eq, not_true_eq_false, decide_false, dt]
  refine loop_of (fun t w' => t 0 = s1 ∧ t 1 = s2 ∧ t 12 = .int .i64 (l.length : Int) ∧ RowKit.Below w.heap.size w w' ∧ ∃ i : Nat, t 13 = .int .i64 (i : Int) ∧ i ≤ l.length) (fun t _ => l.length - (toI (t 13)).toNat)
    ⟨by simp only [WS, List.getElem_cons_zero, List.getElem_cons_succ, Option.isNone_some, Option.isNone_none, List.getD_cons_zero, List.getD_cons_succ, I.at, atL, atO, atP, evp, evs, retV, ↓reduceIte, Nat.reduceEqDiff, reduceCtorEq], by simp only [WS, List.getElem_cons_zero, List.getElem_cons_succ, Option.isNone_some, Option.isNone_none, List.getD_cons_zero, List.getD_cons_succ, I.at, atL, atO, atP, evp, evs, retV, ↓reduceIte, Nat.reduceEqDiff, reduceCtorEq], by simp only [WS, List.getElem_cons_zero, List.getElem_cons_succ, Option.isNone_some, Option.isNone_none, List.getD_cons_zero, List.getD_cons_succ, I.at, atL, atO, atP, evp, evs, retV, ↓reduceIte, Nat.reduceEqDiff, reduceCtorEq], RowKit.Below.refl _ _, 0, by simp only [WS, List.getElem_cons_zero, List.getElem_cons_succ, Option.isNone_some, Option.isNone_none, List.getD_cons_zero, List.getD_cons_succ, I.at, atL, atO, atP, evp, evs, retV, ↓reduceIte, Nat.reduceEqDiff, reduceCtorEq]; rfl, by omega⟩ ?_
  rintro t w2 ⟨t0, t1, t12, B, i, t13, hi⟩
  by_cases hlt : i < l.length
  · simp (maxSteps := 1000000) (disch := omega) only [WS, List.getElem_cons_zero, List.getElem_cons_succ, Option.isNone_some, Option.isNone_none, List.getD_cons_zero, List.getD_cons_succ, I.at, atL, atO, atP, evp, evs, retV, ↓reduceIte, Nat.reduceEqDiff, reduceCtorEq, AS, t0, t1, t12, t13]
    refine WP_dops ?_
    have B := B.trans ((bel_drew w2).mono B.size)
    have g1 := h1.up B
    have g2 := h2.up B
    simp (maxSteps := 1000000) (disch := omega) only [ES, List.mem_cons, List.not_mem_nil, implies_true, forall_const, WS, List.getElem_cons_zero, List.getElem_cons_succ, Option.isNone_some, Option.isNone_none, List.getD_cons_zero, List.getD_cons_succ, I.at, atL, atO, atP, evp, evs, retV, ↓reduceIte, Nat.reduceEqDiff, reduceCtorEq, AS, t0, t1, t12, t13, g1.Eix hlt, g1.Eld hlt, g2.Eix hlt, g2.Eld hlt, cell_e16, ne_eq, not_true_eq_false, decide_false]
    refine ⟨⟨B, i + 1, rfl, by omega⟩, by omega⟩
  · simp (maxSteps := 1000000) (disch := omega) only [WS, List.getElem_cons_zero, List.getElem_cons_succ, Option.isNone_some, Option.isNone_none, List.getD_cons_zero, List.getD_cons_succ, I.at, atL, atO, atP, evp, evs, retV, ↓reduceIte, Nat.reduceEqDiff, reduceCtorEq, AS, t0, t1, t12, t13]
    exact B
theorem pl_one : pl 0 [0] = (1 : El 16) ∧ pl 1 [0] = (1 : El 16) := by
  constructor
  · show (if (0 : Nat) = 0 then (1 : El 16) else _) * 1 = 1
    rw [if_pos rfl]; exact El.mul_one 1
  · show (if (0 : Nat) = 1 then (1 : El 16) else wel 0 + wel 1) * 1 = 1
    rw [if_neg (by decide), wel_zero, wel_one, El.zero_add]; exact El.mul_one 1
theorem cullettop_WholeLocates_spec (w : World) (s : Value) (P : List Int) (size : Int) (hs : Sl w s P) (hP : P.length ≤ 70368744175616) :
    CallV Try.prog 11 [s, .int .i64 size] w fun v w' => v = .bool true ∧ RowKit.Below w.heap.size w w' := by
  have dt : ∀ e : Int, decide (e = e) = true := fun e => decide_eq_true rfl
  refine run_cullettop_WholeLocates (by simp) ?_
  simp only [c_cullettop_WholeLocates, WS, List.getElem_cons_zero, List.getElem_cons_succ, Option.isNone_some, Option.isNone_none, List.getD_cons_zero, List.getD_cons_succ, I.at, atL, atO, atP, evp, evs, retV, ↓reduceIte, Nat.reduceEqDiff, reduceCtorEq]
  refine X_bsl (zs := iN [0]) (by rfl) (by rfl) fun e0 w1 oe hB => ?_
  have oe := oe.sl
  have B := hB
  have hs := hs.up hB
  clear hB
  simp (maxSteps := 1000000) (disch := omega) only [WS, List.getElem_cons_zero, List.getElem_cons_succ, Option.isNone_some, Option.isNone_none, List.getD_cons_zero, List.getD_cons_succ, I.at, atL, atO, atP, evp, evs, retV, ↓reduceIte, Nat.reduceEqDiff, reduceCtorEq, AS]
  refine X_call0 ((walsh_Products_spec w1 e0 [0] oe 1 (by omega) (by simp) (by simp) (by intro i j hi hj; simp at hi hj; omega)).mono ?_)
  rintro _ w2 ⟨s1, a1, rfl, o1, hl1, hv1, hB⟩
  have ha1 : a1 = [(1 : El 16), 1] := by
    refine List.ext_getElem (by rw [hl1]; rfl) fun i h1 h2 => ?_
    rw [hv1 i h1]
    have : i = 0 ∨ i = 1 := by (simp at h2; omega)
    rcases this with rfl | rfl
    · exact pl_one.1
    · exact pl_one.2
  subst ha1
  have o1 := o1.sl
  have hs := hs.up hB
  have B := B.trans (hB.mono B.size)
  clear hB
  simp (maxSteps := 1000000) (disch := omega) only [WS, List.getElem_cons_zero, List.getElem_cons_succ, Option.isNone_some, Option.isNone_none, List.getD_cons_zero, List.getD_cons_succ, I.at, atL, atO, atP, evp, evs, retV, ↓reduceIte, Nat.reduceEqDiff, reduceCtorEq, AS, show decide ((0 : Int) = 0) = true from rfl, show decide ((0 : Int) ≠ 0) = false from rfl]
  refine X_bsl (zs := [(1 : El 16), 1]) (by rfl) (by rfl) fun e1 w3 o2 hB => ?_
  have o2 := o2.sl
  have hs := hs.up hB
  have o1 := o1.up hB
  have B := B.trans (hB.mono B.size)
  clear hB
  simp (maxSteps := 1000000) (disch := omega) only [WS, List.getElem_cons_zero, List.getElem_cons_succ, Option.isNone_some, Option.isNone_none, List.getD_cons_zero, List.getD_cons_succ, I.at, atL, atO, atP, evp, evs, retV, ↓reduceIte, Nat.reduceEqDiff, reduceCtorEq, AS]
  refine X_call0 ((cullettop_words_same w3 s1 e1 _ o1 o2 (by simp)).mono ?_)
  rintro _ w4 ⟨rfl, hB⟩
  have hs := hs.up hB
  have B := B.trans (hB.mono B.size)
  clear hB
  clear o1 o2 oe
  obtain ⟨q, hq⟩ := u64_nn size
  have hr : q % 11 < 11 := Nat.mod_lt _ (by decide)
  have e11 : ((q : Nat) : Int).tmod 11 = ((q % 11 : Nat) : Int) := tmod_nat q 11
  have hn11 : ((11 : Int) ≠ 0) = True := eq_true (by decide)
  generalize q % 11 = r at *
  have h0 := Nat.two_pow_pos r
  have hr10 : 2 ^ r ≤ 2 ^ 10 := Nat.pow_le_pow_right (by omega) (by omega)
  have hsr : shlV .i64 1 (r : Int) = ((2 ^ r : Nat) : Int) := by
    have := shl_nat fits_i64 1 r (by show r ≤ 64; omega) (by rw [Nat.one_mul]; exact Nat.pow_lt_pow_right (by omega) (by omega))
    rw [Nat.one_shiftLeft] at this
    exact this
  have hnz : (((2 ^ r + 1 : Nat) : Int) ≠ 0) = True := eq_true (by omega)
  have hkm : P.length % (2 ^ r + 1) < 2 ^ r + 1 := Nat.mod_lt _ (by omega)
  simp (maxSteps := 1000000) (disch := omega) only [WS, List.getElem_cons_zero, List.getElem_cons_succ, Option.isNone_some, Option.isNone_none, List.getD_cons_zero, List.getD_cons_succ, I.at, atL, atO, atP, evp, evs, retV, ↓reduceIte, Nat.reduceEqDiff, reduceCtorEq, AS, hq, X_rem, hn11, e11, w_nat, X_shl, Int.natCast_nonneg, hsr, hs.Xlen, hnz, tmod_nat]
  generalize P.length % (2 ^ r + 1) = k0 at *
  refine iteW_cut (fun t w' => w' = w4 ∧ t 0 = s ∧ t 7 = .int .i64 (r : Int) ∧ t 8 = .int .i64 ((2 ^ r : Nat) : Int) ∧ ∃ k : Nat, t 9 = .int .i64 (k : Int) ∧ k ≤ 2 ^ r ∧ k ≤ 200) ?_ fun t w5 h => ?_
  · by_cases h2 : 200 < k0
    · simp (maxSteps := 1000000) (disch := omega) only [WS, List.getElem_cons_zero, List.getElem_cons_succ, Option.isNone_some, Option.isNone_none, List.getD_cons_zero, List.getD_cons_succ, I.at, atL, atO, atP, evp, evs, retV, ↓reduceIte, Nat.reduceEqDiff, reduceCtorEq, AS]
      exact ⟨200, rfl, by omega, by omega⟩
    · simp (maxSteps := 1000000) (disch := omega) only [WS, List.getElem_cons_zero, List.getElem_cons_succ, Option.isNone_some, Option.isNone_none, List.getD_cons_zero, List.getD_cons_succ, I.at, atL, atO, atP, evp, evs, retV, ↓reduceIte, Nat.reduceEqDiff, reduceCtorEq, AS]
      exact ⟨k0, rfl, by omega, by omega⟩
  obtain ⟨rfl, t0, t7, t8, k, t9, hk1, hk2⟩ := h
  simp (maxSteps := 1000000) (disch := omega) only [WS, List.getElem_cons_zero, List.getElem_cons_succ, Option.isNone_some, Option.isNone_none, List.getD_cons_zero, List.getD_cons_succ, I.at, atL, atO, atP, evp, evs, retV, ↓reduceIte, Nat.reduceEqDiff, reduceCtorEq, AS, t0, t7, t8, t9]
  refine X_call0 ((cullettop_chosen_spec w5 (2 ^ r) k s P hs (by omega) hk1 hP).mono ?_)
  rintro sl w6 ⟨l, ol, hll, hpw, hlt, hB⟩
  have hnd : l.Nodup := hpw.imp fun h => Nat.ne_of_lt h
  have hinc : ∀ i j (hi : i < l.length) (hj : j < l.length), i < j → l[i] < l[j] := fun i j hi hj h => List.pairwise_iff_getElem.1 hpw i j hi hj h
  have ol := ol.sl
  have B := B.trans (hB.mono B.size)
  clear hB
  clear hs
  simp (maxSteps := 1000000) (disch := omega) only [WS, List.getElem_cons_zero, List.getElem_cons_succ, Option.isNone_some, Option.isNone_none, List.getD_cons_zero, List.getD_cons_succ, I.at, atL, atO, atP, evp, evs, retV, ↓reduceIte, Nat.reduceEqDiff, reduceCtorEq, AS, t7, t8]
  refine X_call0 ((walsh_Products_spec w6 sl l ol r (by omega) hnd hlt hinc).mono ?_)
  rintro _ w7 ⟨sp, pv, rfl, op, hpl, hpv, hB⟩
  have op := op.sl
  have ol := ol.up hB
  have B := B.trans (hB.mono B.size)
  clear hB
  clear t0 t9
  obtain ⟨N, hN⟩ : ∃ N, N = 2 ^ r := ⟨_, rfl⟩
  rw [← hN] at hpl hlt hr10 h0 t8
  have hne0 : ¬ ((N : Int) ≠ (N : Int)) := fun h => h rfl
  simp (maxSteps := 1000000) (disch := omega) only [WS, List.getElem_cons_zero, List.getElem_cons_succ, Option.isNone_some, Option.isNone_none, List.getD_cons_zero, List.getD_cons_succ, I.at, atL, atO, atP, evp, evs, retV, ↓reduceIte, Nat.reduceEqDiff, reduceCtorEq, AS, t8, show decide ((0 : Int) ≠ 0) = false from rfl, op.Xlen, hpl, ne_eq, not_true_eq_false, decide_false]
  refine X_call0 ((polys_Over16_spec w7).mono ?_)
  rintro pr w8 ⟨hpr, hB, -⟩
  have ol := ol.up hB
  have op := op.up hB
  have B := B.trans (hB.mono B.size)
  clear hB
  simp (maxSteps := 1000000) (disch := omega) only [WS, List.getElem_cons_zero, List.getElem_cons_succ, Option.isNone_some, Option.isNone_none, List.getD_cons_zero, List.getD_cons_succ, I.at, atL, atO, atP, evp, evs, retV, ↓reduceIte, Nat.reduceEqDiff, reduceCtorEq, AS, t8]
  refine X_mks (x := (0 : Int)) (n := N) (by simp only [maxBytes]; omega) (by omega) fun si w9 oi hC => ?_
  have hil := iN_len l
  obtain ⟨bi, hbi, hbi1, hbi2⟩ : ∃ b, Fw.blk si = some b ∧ w8.heap.size ≤ b ∧ b < w9.heap.size := by
    have oi' := oi
    rcases oi' with ⟨-, h⟩ | ⟨b, cap, rest, rfl, h1, -, h2⟩
    · have := congrArg List.length h; simp at this; omega
    · exact ⟨b, rfl, h1, row_lt h2⟩
  simp (maxSteps := 1000000) (disch := omega) only [WS, List.getElem_cons_zero, List.getElem_cons_succ, Option.isNone_some, Option.isNone_none, List.getD_cons_zero, List.getD_cons_succ, I.at, atL, atO, atP, evp, evs, retV, ↓reduceIte, Nat.reduceEqDiff, reduceCtorEq, AS, (ol.up hC).Xlen, hil]
  refine loop_of (fun t w' => t 8 = .int .i64 (N : Int) ∧ t 11 = sp ∧ t 12 = pr ∧ t 14 = si ∧ t 72 = sl ∧ t 73 = .int .i64 (l.length : Int) ∧ RowKit.Below w8.heap.size w8 w' ∧ w9.heap.size ≤ w'.heap.size ∧ ∃ (i : Nat) (sx : Value) (IL : List Int), t 74 = .int .i64 (i : Int) ∧ i ≤ l.length ∧ t 13 = sx ∧ Ow w8.heap.size w' sx ((l.take i).map wel) ∧ Ow w8.heap.size w' si IL ∧ some bi ≠ Fw.blk sx ∧ IL.length = N ∧ ∀ j (hj : j < IL.length), IL[j] = ((mk (l.take i) j : Nat) : Int)) (fun t _ => l.length - (toI (t 74)).toNat)
    ⟨by simp only [WS, List.getElem_cons_zero, List.getElem_cons_succ, Option.isNone_some, Option.isNone_none, List.getD_cons_zero, List.getD_cons_succ, I.at, atL, atO, atP, evp, evs, retV, ↓reduceIte, Nat.reduceEqDiff, reduceCtorEq]; exact t8, by simp only [WS, List.getElem_cons_zero, List.getElem_cons_succ, Option.isNone_some, Option.isNone_none, List.getD_cons_zero, List.getD_cons_succ, I.at, atL, atO, atP, evp, evs, retV, ↓reduceIte, Nat.reduceEqDiff, reduceCtorEq], by simp only [WS, List.getElem_cons_zero, List.getElem_cons_succ, Option.isNone_some, Option.isNone_none, List.getD_cons_zero, List.getD_cons_succ, I.at, atL, atO, atP, evp, evs, retV, ↓reduceIte, Nat.reduceEqDiff, reduceCtorEq], by simp only [WS, List.getElem_cons_zero, List.getElem_cons_succ, Option.isNone_some, Option.isNone_none, List.getD_cons_zero, List.getD_cons_succ, I.at, atL, atO, atP, evp, evs, retV, ↓reduceIte, Nat.reduceEqDiff, reduceCtorEq], by simp only [WS, List.getElem_cons_zero, List.getElem_cons_succ, Option.isNone_some, Option.isNone_none, List.getD_cons_zero, List.getD_cons_succ, I.at, atL, atO, atP, evp, evs, retV, ↓reduceIte, Nat.reduceEqDiff, reduceCtorEq], by simp only [WS, List.getElem_cons_zero, List.getElem_cons_succ, Option.isNone_some, Option.isNone_none, List.getD_cons_zero, List.getD_cons_succ, I.at, atL, atO, atP, evp, evs, retV, ↓reduceIte, Nat.reduceEqDiff, reduceCtorEq], hC, Nat.le_refl _, 0, .slice none 0 0, _, by simp only [WS, List.getElem_cons_zero, List.getElem_cons_succ, Option.isNone_some, Option.isNone_none, List.getD_cons_zero, List.getD_cons_succ, I.at, atL, atO, atP, evp, evs, retV, ↓reduceIte, Nat.reduceEqDiff, reduceCtorEq]; rfl, by omega, by simp only [WS, List.getElem_cons_zero, List.getElem_cons_succ, Option.isNone_some, Option.isNone_none, List.getD_cons_zero, List.getD_cons_succ, I.at, atL, atO, atP, evp, evs, retV, ↓reduceIte, Nat.reduceEqDiff, reduceCtorEq], Or.inl ⟨rfl, rfl⟩, oi, (fun h => by cases h), List.length_replicate .., fun j hj => by rw [List.getElem_replicate]; simp [mk]⟩ ?_
  clear t7 t8 hC oi
  rintro t w10 ⟨t8, t11, t12, t14, t72, t73, C, hsz, i, sx, IL, t74, hi, t13, ox, oi, hne, hIl, hIv⟩
  have hxl : ((l.take i).map wel).length = i := by rw [List.length_map, List.length_take]; omega
  by_cases hil2 : i < l.length
  · have ii : i < (iN l).length := by omega
    have ei := iN_get ii hil2
    have hgi := hlt _ (List.getElem_mem hil2)
    have hs := ol.up C
    simp (maxSteps := 1000000) (disch := omega) only [WS, List.getElem_cons_zero, List.getElem_cons_succ, Option.isNone_some, Option.isNone_none, List.getD_cons_zero, List.getD_cons_succ, I.at, atL, atO, atP, evp, evs, retV, ↓reduceIte, Nat.reduceEqDiff, reduceCtorEq, AS, t8, t11, t12, t14, t72, t73, t74, t13, hs.Xix ii, hs.Xld ii, ei, cell_int]
    refine X_call0 ((gf16_Element_spec w10 ((l[i] : Nat) : Int)).mono ?_)
    rintro _ w11 ⟨hB, ⟨-, -, rfl⟩ | ⟨hbad, -⟩⟩
    rotate_left
    · exact absurd ⟨by omega, by omega⟩ hbad
    rw [Int.toNat_natCast]
    have hsz := Nat.le_trans hsz hB.size
    have ox := ox.up hB
    have oi := oi.up hB
    have C := C.trans (hB.mono C.size)
    clear hB
    simp (maxSteps := 1000000) (disch := omega) only [WS, List.getElem_cons_zero, List.getElem_cons_succ, Option.isNone_some, Option.isNone_none, List.getD_cons_zero, List.getD_cons_succ, I.at, atL, atO, atP, evp, evs, retV, ↓reduceIte, Nat.reduceEqDiff, reduceCtorEq, AS, t8, t11, t12, t14, t72, t73, t74, t13, show decide ((0 : Int) ≠ 0) = false from rfl]
    refine X_bsl (zs := [wel l[i]]) (by rfl) (by rfl) fun e0 w12 oe hB => ?_
    have oe := oe.sl
    have hsz := Nat.le_trans hsz hB.size
    have ox := ox.up hB
    have oi := oi.up hB
    have C := C.trans (hB.mono C.size)
    clear hB
    simp (maxSteps := 1000000) (disch := omega) only [WS, List.getElem_cons_zero, List.getElem_cons_succ, Option.isNone_some, Option.isNone_none, List.getD_cons_zero, List.getD_cons_succ, I.at, atL, atO, atP, evp, evs, retV, ↓reduceIte, Nat.reduceEqDiff, reduceCtorEq, AS, t8, t11, t12, t14, t72, t73, t74, t13]
    refine Ow.Xapp2 ox oe C.size (by rw [hxl]; simp only [List.length_singleton, maxBytes]; omega) (by rw [hxl]; simp only [List.length_singleton]; omega) fun e1 w13 ox2 hg => ?_
    have htk : l.take (i + 1) = l.take i ++ [l[i]] := (List.take_append_getElem hil2).symm
    have he : (l.take i).map wel ++ [wel l[i]] = (l.take (i + 1)).map wel := by rw [htk, List.map_append]; rfl
    rw [he] at ox2
    have oi2 : Ow w8.heap.size w13 si IL := by
      rcases hg with ⟨-, hg⟩ | ⟨-, hB⟩
      · exact oi.grown hg (by rw [hbi]; exact hne)
      · exact oi.up hB
    have hne2 := grew_ne hg (by omega) hne
    have C := hg.below C C.size fun b hb => (ox.blk b hb).1
    have hsz := Nat.le_trans hsz hg.size
    have iI : l[i] < IL.length := by omega
    simp (maxSteps := 1000000) (disch := omega) only [WS, List.getElem_cons_zero, List.getElem_cons_succ, Option.isNone_some, Option.isNone_none, List.getD_cons_zero, List.getD_cons_succ, I.at, atL, atO, atP, evp, evs, retV, ↓reduceIte, Nat.reduceEqDiff, reduceCtorEq, AS, t8, t11, t12, t14, t72, t73, t74, oi2.sl.Xix iI]
    refine Ow.Xst oi2 iI (1 : Int) fun w14 oi3 hg3 => ?_
    have ox3 := ox2.grown hg3 (fun e => hne2 (by rw [← hbi]; exact e.symm))
    have C := C.grown hg3 C.size fun b hb => (oi2.blk b hb).1
    have hsz := Nat.le_trans hsz hg3.size
    simp (maxSteps := 1000000) (disch := omega) only [WS, List.getElem_cons_zero, List.getElem_cons_succ, Option.isNone_some, Option.isNone_none, List.getD_cons_zero, List.getD_cons_succ, I.at, atL, atO, atP, evp, evs, retV, ↓reduceIte, Nat.reduceEqDiff, reduceCtorEq, AS, t8, t11, t12, t14, t72, t73, t74]
    refine ⟨⟨C, hsz, i + 1, e1, _, rfl, by omega, rfl, ox3, oi3, hne2, by rw [List.length_set]; exact hIl, fun j hj => ?_⟩, by omega⟩
    rw [List.getElem_set, htk]
    by_cases c : l[i] = j
    · rw [if_pos c]; unfold mk; rw [if_pos (List.mem_append_right _ (List.mem_singleton.2 c.symm))]; rfl
    · rw [if_neg c, hIv j (by rw [List.length_set] at hj; exact hj)]
      unfold mk
      by_cases c2 : j ∈ l.take i
      · rw [if_pos c2, if_pos (List.mem_append_left _ c2)]
      · rw [if_neg c2, if_neg (fun h => by
          rcases List.mem_append.1 h with h | h
          · exact c2 h
          · exact c (List.mem_singleton.1 h).symm)]
  have hie : i = l.length := by omega
  rw [hie, List.take_length] at ox hIv hxl
  have ox := ox.sl
  have oi := oi.sl
  have op := op.up C
  have hpr := hpr.up C
  have B := B.trans (C.mono B.size)
  simp (maxSteps := 1000000) (disch := omega) only [WS, List.getElem_cons_zero, List.getElem_cons_succ, Option.isNone_some, Option.isNone_none, List.getD_cons_zero, List.getD_cons_succ, I.at, atL, atO, atP, evp, evs, retV, ↓reduceIte, Nat.reduceEqDiff, reduceCtorEq, AS, t8, t11, t12, t14, t72, t73, t74, t13]
  refine X_call0 ((polys_Ring_w_Vanishing_spec w10 pr sx (l.map wel) hpr ox (by omega)).mono ?_)
  rintro _ w11 ⟨hB, ⟨-, sf, mf, rfl, of, hfl, hfc⟩ | ⟨h9, -⟩⟩
  rotate_left
  · exact absurd (by omega) h9
  have of := of.sl
  have op := op.up hB
  have oi := oi.up hB
  have hpr := hpr.up hB
  have B := B.trans (hB.mono B.size)
  clear hB
  simp (maxSteps := 1000000) (disch := omega) only [WS, List.getElem_cons_zero, List.getElem_cons_succ, Option.isNone_some, Option.isNone_none, List.getD_cons_zero, List.getD_cons_succ, I.at, atL, atO, atP, evp, evs, retV, ↓reduceIte, Nat.reduceEqDiff, reduceCtorEq, AS, t8, t11, t12, t14, show decide ((0 : Int) ≠ 0) = false from rfl]
  refine X_call0 ((polys_Ring_w_Derivative_spec w11 pr sf mf hpr of (by omega)).mono ?_)
  rintro sd w12 ⟨md2, od, -, hdc, hdl, hB⟩
  have od := od.sl
  have op := op.up hB
  have oi := oi.up hB
  have hpr := hpr.up hB
  have of := of.up hB
  have B := B.trans (hB.mono B.size)
  clear hB
  simp (maxSteps := 1000000) (disch := omega) only [WS, List.getElem_cons_zero, List.getElem_cons_succ, Option.isNone_some, Option.isNone_none, List.getD_cons_zero, List.getD_cons_succ, I.at, atL, atO, atP, evp, evs, retV, ↓reduceIte, Nat.reduceEqDiff, reduceCtorEq, AS, t8, t11, t12, t14]
  refine loop_of (fun t w' => t 8 = .int .i64 (N : Int) ∧ t 11 = sp ∧ t 12 = pr ∧ t 14 = si ∧ t 19 = sf ∧ t 20 = sd ∧ RowKit.Below w12.heap.size w12 w' ∧ ∃ i : Nat, t 21 = .int .i64 (i : Int) ∧ i ≤ N) (fun t _ => N - (toI (t 21)).toNat)
    ⟨by simp only [WS, List.getElem_cons_zero, List.getElem_cons_succ, Option.isNone_some, Option.isNone_none, List.getD_cons_zero, List.getD_cons_succ, I.at, atL, atO, atP, evp, evs, retV, ↓reduceIte, Nat.reduceEqDiff, reduceCtorEq]; exact t8, by simp only [WS, List.getElem_cons_zero, List.getElem_cons_succ, Option.isNone_some, Option.isNone_none, List.getD_cons_zero, List.getD_cons_succ, I.at, atL, atO, atP, evp, evs, retV, ↓reduceIte, Nat.reduceEqDiff, reduceCtorEq]; exact t11, by simp only [WS, List.getElem_cons_zero, List.getElem_cons_succ, Option.isNone_some, Option.isNone_none, List.getD_cons_zero, List.getD_cons_succ, I.at, atL, atO, atP, evp, evs, retV, ↓reduceIte, Nat.reduceEqDiff, reduceCtorEq]; exact t12, by simp only [WS, List.getElem_cons_zero, List.getElem_cons_succ, Option.isNone_some, Option.isNone_none, List.getD_cons_zero, List.getD_cons_succ, I.at, atL, atO, atP, evp, evs, retV, ↓reduceIte, Nat.reduceEqDiff, reduceCtorEq]; exact t14, by simp only [WS, List.getElem_cons_zero, List.getElem_cons_succ, Option.isNone_some, Option.isNone_none, List.getD_cons_zero, List.getD_cons_succ, I.at, atL, atO, atP, evp, evs, retV, ↓reduceIte, Nat.reduceEqDiff, reduceCtorEq], by simp only [WS, List.getElem_cons_zero, List.getElem_cons_succ, Option.isNone_some, Option.isNone_none, List.getD_cons_zero, List.getD_cons_succ, I.at, atL, atO, atP, evp, evs, retV, ↓reduceIte, Nat.reduceEqDiff, reduceCtorEq], RowKit.Below.refl _ _, 0, by simp only [WS, List.getElem_cons_zero, List.getElem_cons_succ, Option.isNone_some, Option.isNone_none, List.getD_cons_zero, List.getD_cons_succ, I.at, atL, atO, atP, evp, evs, retV, ↓reduceIte, Nat.reduceEqDiff, reduceCtorEq]; rfl, by omega⟩ ?_
  clear t8 t11 t12 t14 t72 t73 t74 t13
  rintro t w13 ⟨t8, t11, t12, t14, t19, t20, C, i, t21, hi⟩
  by_cases hiN : i < N
  rotate_left
  · simp (maxSteps := 1000000) (disch := omega) only [WS, List.getElem_cons_zero, List.getElem_cons_succ, Option.isNone_some, Option.isNone_none, List.getD_cons_zero, List.getD_cons_succ, I.at, atL, atO, atP, evp, evs, retV, ↓reduceIte, Nat.reduceEqDiff, reduceCtorEq, AS, t8, t21]
    exact B.trans (C.mono B.size)
  have hl65 : ∀ e ∈ l, e < 65536 := fun e he => by have := hlt e he; omega
  obtain ⟨v1, v2⟩ := loc_vps i (by omega) l hnd hl65
  have hdg := vps_dg (l.map wel)
  rw [hxl] at hdg
  have ii : i < IL.length := by omega
  have ip : i < pv.length := by omega
  have hIi := hIv i ii
  have hpi := hpv i ip
  have oi := oi.up C
  have op := op.up C
  have of := of.up C
  have od := od.up C
  have hpr := hpr.up C
  simp (maxSteps := 1000000) (disch := omega) only [WS, List.getElem_cons_zero, List.getElem_cons_succ, Option.isNone_some, Option.isNone_none, List.getD_cons_zero, List.getD_cons_succ, I.at, atL, atO, atP, evp, evs, retV, ↓reduceIte, Nat.reduceEqDiff, reduceCtorEq, AS, t8, t11, t12, t14, t19, t20, t21]
  refine X_call0 ((gf16_Element_spec w13 (i : Int)).mono ?_)
  rintro _ w14 ⟨hB, ⟨-, -, rfl⟩ | ⟨hbad, -⟩⟩
  rotate_left
  · exact absurd ⟨by omega, by omega⟩ hbad
  rw [Int.toNat_natCast]
  have oi := oi.up hB
  have op := op.up hB
  have of := of.up hB
  have od := od.up hB
  have hpr := hpr.up hB
  have C := C.trans (hB.mono C.size)
  clear hB
  simp (maxSteps := 1000000) (disch := omega) only [WS, List.getElem_cons_zero, List.getElem_cons_succ, Option.isNone_some, Option.isNone_none, List.getD_cons_zero, List.getD_cons_succ, I.at, atL, atO, atP, evp, evs, retV, ↓reduceIte, Nat.reduceEqDiff, reduceCtorEq, AS, t8, t11, t12, t14, t19, t20, t21]
  refine X_call0 ((polys_Ring_w_Eval_spec w14 pr sf mf (wel i) hpr of (by omega)).mono ?_)
  rintro _ w15 ⟨rfl, hB⟩
  have oi := oi.up hB
  have op := op.up hB
  have of := of.up hB
  have od := od.up hB
  have hpr := hpr.up hB
  have C := C.trans (hB.mono C.size)
  clear hB
  simp (maxSteps := 1000000) (disch := omega) only [WS, List.getElem_cons_zero, List.getElem_cons_succ, Option.isNone_some, Option.isNone_none, List.getD_cons_zero, List.getD_cons_succ, I.at, atL, atO, atP, evp, evs, retV, ↓reduceIte, Nat.reduceEqDiff, reduceCtorEq, AS, t8, t11, t12, t14, t19, t20, t21, oi.Xix ii, oi.Xld ii, cell_int, hIi]
  by_cases hm : i ∈ l
  · have hmk : mk l i = 1 := by unfold mk; rw [if_pos hm]
    have ev : evl md2 (wel i) = pl i l := by
      rw [evl_co, evn_eq (co_dg md2) (show Dg (co md2) (l.length + 1) by rw [hdc, hfc]; exact hdg.D), hdc, hfc]
      exact v2 hm
    simp (maxSteps := 1000000) (disch := omega) only [WS, List.getElem_cons_zero, List.getElem_cons_succ, Option.isNone_some, Option.isNone_none, List.getD_cons_zero, List.getD_cons_succ, I.at, atL, atO, atP, evp, evs, retV, ↓reduceIte, Nat.reduceEqDiff, reduceCtorEq, AS, hmk, show decide (((1 : Nat) : Int) = 1) = true from rfl, t8, t11, t12, t14, t19, t20, t21]
    refine X_call0 ((polys_Ring_w_Eval_spec w15 pr sd md2 (wel i) hpr od (by omega)).mono ?_)
    rintro _ w16 ⟨rfl, hB⟩
    have op := op.up hB
    have C := C.trans (hB.mono C.size)
    clear hB
    simp (maxSteps := 1000000) (disch := omega) only [WS, List.getElem_cons_zero, List.getElem_cons_succ, Option.isNone_some, Option.isNone_none, List.getD_cons_zero, List.getD_cons_succ, I.at, atL, atO, atP, evp, evs, retV, ↓reduceIte, Nat.reduceEqDiff, reduceCtorEq, AS, t8, t11, t12, t14, t19, t20, t21, op.Xix ip, op.Xld ip, cell_e16, hpi, ev, ne_eq, not_true_eq_false, decide_false]
    exact ⟨⟨C, i + 1, rfl, by omega⟩, by omega⟩
  · have hmk : mk l i = 0 := by unfold mk; rw [if_neg hm]
    have ev : evl mf (wel i) = pl i l := by
      rw [evl_co, evn_eq (co_dg mf) (show Dg (co mf) (l.length + 1) by rw [hfc]; exact hdg), hfc]
      exact v1 hm
    simp (maxSteps := 1000000) (disch := omega) only [WS, List.getElem_cons_zero, List.getElem_cons_succ, Option.isNone_some, Option.isNone_none, List.getD_cons_zero, List.getD_cons_succ, I.at, atL, atO, atP, evp, evs, retV, ↓reduceIte, Nat.reduceEqDiff, reduceCtorEq, AS, hmk, show decide (((0 : Nat) : Int) = 1) = false from rfl, t8, t11, t12, t14, t19, t20, t21, op.Xix ip, op.Xld ip, cell_e16, hpi, ev, ne_eq, not_true_eq_false, decide_false]
    exact ⟨⟨C, i + 1, rfl, by omega⟩, by omega⟩
end Go.Proofs.Ytbaljbadlfopgaa.Fw
