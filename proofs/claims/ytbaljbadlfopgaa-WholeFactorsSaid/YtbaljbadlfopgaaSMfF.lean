import Derived.Test.YtbaljbadlfopgaaProg
import Derived.Test.YtbaljbadlfopgaaFwTF
import Derived.Test.YtbaljbadlfopgaaSMwF
import Derived.Test.YtbaljbadlfopgaaSMnF
import Derived.Test.YtbaljbadlfopgaaGfLfF
import Derived.Test.YtbaljbadlfopgaaGfNF
set_option linter.all false
set_option linter.unusedVariables false
set_option linter.unusedSimpArgs false
set_option maxRecDepth 100000
set_option maxHeartbeats 1000000
namespace Go.Proofs.Ytbaljbadlfopgaa.Fw
open Go Go.Fw Go.Proofs
attribute [local irreducible] stepI
def c_cullettop_WholeFactors : C := .seq (.ops [⟨0, (some 1), none, .box 68 (.t 0), []⟩, ⟨1, (some 2), none, .mov (.c (.bool false)), []⟩]) (.seq (.dops [⟨0, (some 22), none, .fad 0 (.t 1), []⟩, ⟨1, (some 23), none, .ld (.t 22), []⟩, ⟨2, (some 24), none, .fad 1 (.t 1), []⟩, ⟨3, (some 25), none, .ld (.t 24), []⟩, ⟨4, (some 26), none, .fad 2 (.t 1), []⟩, ⟨5, (some 27), none, .ld (.t 26), []⟩, ⟨6, (some 28), none, .fad 3 (.t 1), []⟩, ⟨7, (some 29), none, .ld (.t 28), []⟩, ⟨8, (some 30), none, .fad 4 (.t 1), []⟩, ⟨9, (some 31), none, .ld (.t 30), []⟩, ⟨10, (some 3), none, .mov (.t 23), []⟩, ⟨11, (some 4), none, .mov (.t 25), []⟩, ⟨12, (some 5), none, .mov (.t 27), []⟩, ⟨13, (some 6), none, .mov (.t 29), []⟩, ⟨14, (some 7), none, .mov (.t 31), []⟩]) (.seq (.seq (.ops [⟨0, (some 32), none, .mov (.t 3), []⟩, ⟨1, (some 33), none, .mov (.t 4), []⟩, ⟨2, (some 34), none, .call (.c (.func (.func 32) #[] #[])) [.c (.int .i64 2), .t 32, .t 33], []⟩, ⟨3, (some 35), none, .un .not (.t 34), []⟩, ⟨4, (some 36), none, .mov (.t 35), []⟩, ⟨5, (some 37), (some (36, false)), .mov (.t 5), []⟩, ⟨6, (some 38), (some (36, false)), .bin .lss (.t 37) (.c (.int .i64 0)), []⟩, ⟨7, (some 39), none, .pick (.t 36) (.c (.bool true)) (.t 38), []⟩, ⟨8, (some 40), none, .mov (.t 39), []⟩, ⟨9, (some 41), (some (40, false)), .mov (.t 5), []⟩, ⟨10, (some 42), (some (40, false)), .mov (.t 3), []⟩, ⟨11, (some 43), (some (40, false)), .bin .geq (.t 41) (.t 42), []⟩, ⟨12, (some 44), none, .pick (.t 40) (.c (.bool true)) (.t 43), []⟩, ⟨13, (some 45), none, .mov (.t 44), []⟩, ⟨14, (some 46), (some (45, false)), .mov (.t 6), []⟩, ⟨15, (some 47), (some (45, false)), .bin .lss (.t 46) (.c (.int .i64 0)), []⟩, ⟨16, (some 48), none, .pick (.t 45) (.c (.bool true)) (.t 47), []⟩, ⟨17, (some 49), none, .mov (.t 48), []⟩, ⟨18, (some 50), (some (49, false)), .mov (.t 6), []⟩, ⟨19, (some 51), (some (49, false)), .mov (.t 4), []⟩, ⟨20, (some 52), (some (49, false)), .bin .geq (.t 50) (.t 51), []⟩, ⟨21, (some 53), none, .pick (.t 49) (.c (.bool true)) (.t 52), []⟩]) (.ite (.t 53) (.ops [⟨0, (some 3), none, .mov (.c (.int .i64 2)), []⟩, ⟨1, (some 4), none, .mov (.c (.int .i64 3)), []⟩, ⟨2, (some 5), none, .mov (.c (.int .i64 1)), []⟩, ⟨3, (some 6), none, .mov (.c (.int .i64 2)), []⟩]) .skip)) (.seq (.ops [⟨0, (some 54), none, .mov (.t 4), []⟩, ⟨1, (some 55), none, .call (.c (.func (.func 33) #[] #[])) [.t 54], []⟩, ⟨2, (some 8), none, .mov (.t 55), []⟩]) (.seq (.ops [⟨0, (some 56), none, .mov (.t 8), []⟩, ⟨1, (some 57), none, .mov (.t 3), []⟩, ⟨2, (some 58), none, .bin .add (.t 56) (.t 57), []⟩, ⟨3, (some 59), none, .call (.c (.func (.func 33) #[] #[])) [.t 58], []⟩, ⟨4, (some 9), none, .mov (.t 59), []⟩]) (.seq (.seq (.ops [⟨0, (some 10), none, .mov (.c (.int .i64 0)), []⟩]) (.block 0 (.loop (.seq (.seq (.ops [⟨0, (some 60), none, .mov (.t 10), []⟩, ⟨1, (some 61), none, .mov (.t 7), []⟩, ⟨2, (some 62), none, .bin .lss (.t 60) (.t 61), []⟩, ⟨3, (some 63), none, .mov (.t 62), []⟩, ⟨4, (some 64), (some (63, true)), .mov (.t 10), []⟩, ⟨5, (some 65), (some (63, true)), .bin .lss (.t 64) (.c (.int .i64 3)), []⟩, ⟨6, (some 66), none, .pick (.t 63) (.t 65) (.c (.bool false)), []⟩, ⟨7, (some 67), none, .mov (.t 66), []⟩, ⟨8, (some 68), (some (67, true)), .mov (.t 9), []⟩, ⟨9, (some 69), (some (67, true)), .bin .lss (.t 68) (.c (.int .i64 65536)), []⟩, ⟨10, (some 70), none, .pick (.t 67) (.t 69) (.c (.bool false)), []⟩]) (.ite (.t 70) .skip (.exit 0))) (.seq (.block 1 (.ops [⟨0, (some 73), none, .mov (.t 9), []⟩, ⟨1, (some 74), none, .bin .mul (.t 73) (.c (.int .i64 2)), []⟩, ⟨2, (some 9), none, .mov (.t 74), []⟩])) (.ops [⟨0, (some 71), none, .mov (.t 10), []⟩, ⟨1, (some 72), none, .bin .add (.t 71) (.c (.int .i64 1)), []⟩, ⟨2, (some 10), none, .mov (.t 72), []⟩])))))) (.seq (.ops [⟨0, (some 76), none, .mov (.t 3), []⟩, ⟨1, (some 77), none, .mov (.t 4), []⟩, ⟨2, (some 78), none, .mov (.t 6), []⟩, ⟨3, (some 79), none, .call (.c (.func (.func 34) #[] #[])) [.t 76, .t 77, .t 78], []⟩, ⟨4, (some 75), none, .mov (.t 79), []⟩, ⟨5, (some 80), none, .ext (.t 75) 0, []⟩, ⟨6, (some 81), none, .ext (.t 75) 1, []⟩, ⟨7, (some 11), none, .mov (.t 80), []⟩, ⟨8, (some 12), none, .mov (.t 81), []⟩]) (.seq (.seq (.ops [⟨0, (some 82), none, .mov (.t 12), []⟩, ⟨1, (some 83), none, .bin .neq (.t 82) (.c (.int .i64 0)), []⟩, ⟨2, (some 84), none, .mov (.t 83), []⟩, ⟨3, (some 85), (some (84, false)), .mov (.t 11), []⟩, ⟨4, (some 86), (some (84, false)), .len (.t 85), []⟩, ⟨5, (some 87), (some (84, false)), .mov (.t 3), []⟩, ⟨6, (some 88), (some (84, false)), .bin .neq (.t 86) (.t 87), []⟩, ⟨7, (some 89), none, .pick (.t 84) (.c (.bool true)) (.t 88), []⟩]) (.ite (.t 89) (.seq (.ops [⟨0, (some 2), none, .mov (.c (.bool false)), []⟩]) .ret) .skip)) (.seq (.seq (.ops [⟨0, (some 90), none, .mov (.t 9), []⟩, ⟨1, (some 91), none, .mov (.t 8), []⟩, ⟨2, (some 92), none, .bin .sub (.t 90) (.t 91), []⟩, ⟨3, (some 93), none, .bin .gtr (.t 92) (.c (.int .i64 1024)), []⟩]) (.ite (.t 93) (.seq (.ops [⟨0, (some 2), none, .mov (.c (.bool true)), []⟩]) .ret) .skip)) (.seq (.ops [⟨0, (some 13), none, .mov (.c (.slice none 0 0)), []⟩]) (.seq (.seq (.ops [⟨0, (some 94), none, .mov (.t 8), []⟩, ⟨1, (some 14), none, .mov (.t 94), []⟩]) (.block 2 (.loop (.seq (.seq (.ops [⟨0, (some 95), none, .mov (.t 14), []⟩, ⟨1, (some 96), none, .mov (.t 9), []⟩, ⟨2, (some 97), none, .bin .lss (.t 95) (.t 96), []⟩]) (.ite (.t 97) .skip (.exit 2))) (.seq (.block 3 (.seq (.ops [⟨0, (some 101), none, .mov (.t 14), []⟩, ⟨1, (some 102), none, .call (.c (.func (.func 35) #[] #[])) [.t 101], []⟩, ⟨2, (some 100), none, .mov (.t 102), []⟩, ⟨3, (some 103), none, .ext (.t 100) 0, []⟩, ⟨4, (some 104), none, .ext (.t 100) 1, []⟩, ⟨5, (some 15), none, .mov (.t 103), []⟩, ⟨6, (some 16), none, .mov (.t 104), []⟩]) (.seq (.seq (.ops [⟨0, (some 105), none, .mov (.t 16), []⟩, ⟨1, (some 106), none, .bin .neq (.t 105) (.c (.int .i64 0)), []⟩]) (.ite (.t 106) (.seq (.ops [⟨0, (some 2), none, .mov (.c (.bool false)), []⟩]) .ret) .skip)) (.ops [⟨0, (some 107), none, .mov (.t 13), []⟩, ⟨1, (some 108), none, .mov (.t 15), []⟩, ⟨2, (some 109), none, .bsl 73 1 [.int .u16 0] [(0, (1, .t 108))], []⟩, ⟨3, (some 110), none, .app 73 2 [.int .u16 0] (.t 107) (.t 109), []⟩, ⟨4, (some 13), none, .mov (.t 110), []⟩])))) (.ops [⟨0, (some 98), none, .mov (.t 14), []⟩, ⟨1, (some 99), none, .bin .add (.t 98) (.c (.int .i64 1)), []⟩, ⟨2, (some 14), none, .mov (.t 99), []⟩])))))) (.seq (.ops [⟨0, (some 111), none, .mov (.t 13), []⟩, ⟨1, (some 112), none, .len (.t 111), []⟩, ⟨2, (some 113), none, .mks 73 2 [.int .u16 0] (.t 112) (.t 112), []⟩, ⟨3, (some 17), none, .mov (.t 113), []⟩]) (.seq (.ops [⟨0, (some 114), none, .mov (.t 17), []⟩, ⟨1, (some 115), none, .mov (.t 5), []⟩, ⟨2, (some 116), none, .ixs 1 (.t 114) (.t 115), []⟩, ⟨3, none, none, .st (.t 116) (.c (.int .u16 1)), []⟩]) (.seq (.ops [⟨0, (some 117), none, .call (.c (.func (.func 36) #[] #[])) [], []⟩, ⟨1, (some 18), none, .mov (.t 117), []⟩]) (.seq (.ops [⟨0, (some 119), none, .mov (.t 18), []⟩, ⟨1, (some 120), none, .mov (.t 13), []⟩, ⟨2, (some 121), none, .mov (.t 17), []⟩, ⟨3, (some 122), none, .call (.c (.func (.func 37) #[] #[])) [.t 119, .t 120, .t 121], []⟩, ⟨4, (some 118), none, .mov (.t 122), []⟩, ⟨5, (some 123), none, .ext (.t 118) 0, []⟩, ⟨6, (some 124), none, .ext (.t 118) 1, []⟩, ⟨7, (some 19), none, .mov (.t 123), []⟩, ⟨8, (some 12), none, .mov (.t 124), []⟩]) (.seq (.ops [⟨0, (some 126), none, .mov (.t 6), []⟩, ⟨1, (some 127), none, .call (.c (.func (.func 35) #[] #[])) [.t 126], []⟩, ⟨2, (some 125), none, .mov (.t 127), []⟩, ⟨3, (some 128), none, .ext (.t 125) 0, []⟩, ⟨4, (some 129), none, .ext (.t 125) 1, []⟩, ⟨5, (some 20), none, .mov (.t 128), []⟩, ⟨6, (some 21), none, .mov (.t 129), []⟩]) (.seq (.dops [⟨0, (some 130), none, .mov (.t 12), []⟩, ⟨1, (some 131), none, .bin .eql (.t 130) (.c (.int .i64 0)), []⟩, ⟨2, (some 132), none, .mov (.t 131), []⟩, ⟨3, (some 133), (some (132, true)), .mov (.t 21), []⟩, ⟨4, (some 134), (some (132, true)), .bin .eql (.t 133) (.c (.int .i64 0)), []⟩, ⟨5, (some 135), none, .pick (.t 132) (.t 134) (.c (.bool false)), []⟩, ⟨6, (some 136), none, .mov (.t 135), []⟩, ⟨7, (some 137), (some (136, true)), .mov (.t 18), []⟩, ⟨8, (some 138), (some (136, true)), .mov (.t 19), []⟩, ⟨9, (some 139), (some (136, true)), .mov (.t 20), []⟩, ⟨10, (some 140), (some (136, true)), .call (.c (.func (.func 38) #[] #[])) [.t 137, .t 138, .t 139], []⟩, ⟨11, (some 141), (some (136, true)), .mov (.t 11), []⟩, ⟨12, (some 142), (some (136, true)), .mov (.t 5), []⟩, ⟨13, (some 143), (some (136, true)), .ixs 1 (.t 141) (.t 142), []⟩, ⟨14, (some 144), (some (136, true)), .ld (.t 143), [10]⟩, ⟨15, (some 145), (some (136, true)), .bin .eql (.t 140) (.t 144), []⟩, ⟨16, (some 146), none, .pick (.t 136) (.t 145) (.c (.bool false)), []⟩, ⟨17, (some 2), none, .mov (.t 146), []⟩]) .ret))))))))))))))))
attribute [irreducible] c_cullettop_WholeFactors
theorem run_cullettop_WholeFactors {args : List Value} {w : World} {K : Value → World → Prop} (hn : args.length ≤ 147) (h : WP Try.prog c_cullettop_WholeFactors (endQ [.t 2] K) (initT args) w) : CallV Try.prog 10 args w K :=
  call_of follows Try.func10 (by kernel_rfl) (by kernel_rfl) hn h
def c_cullettop_valid : C := .seq (.ops [⟨0, (some 6), none, .mov (.c (.bool false)), []⟩]) (.seq (.seq (.ops [⟨0, (some 7), none, .mov (.t 1), []⟩, ⟨1, (some 8), none, .bin .lss (.t 7) (.c (.int .i64 1)), []⟩, ⟨2, (some 9), none, .mov (.t 8), []⟩, ⟨3, (some 10), (some (9, false)), .mov (.t 2), []⟩, ⟨4, (some 11), (some (9, false)), .bin .lss (.t 10) (.c (.int .i64 1)), []⟩, ⟨5, (some 12), none, .pick (.t 9) (.c (.bool true)) (.t 11), []⟩]) (.ite (.t 12) (.seq (.ops [⟨0, (some 6), none, .mov (.c (.bool false)), []⟩]) .ret) .skip)) (.seq (.seq (.ops [⟨0, (some 13), none, .mov (.t 0), []⟩, ⟨1, (some 14), none, .bin .eql (.t 13) (.c (.int .i64 0)), []⟩, ⟨2, (some 15), none, .mov (.t 14), []⟩, ⟨3, (some 16), (some (15, false)), .mov (.t 0), []⟩, ⟨4, (some 17), (some (15, false)), .bin .eql (.t 16) (.c (.int .i64 1)), []⟩, ⟨5, (some 18), none, .pick (.t 15) (.c (.bool true)) (.t 17), []⟩]) (.ite (.t 18) (.seq (.ops [⟨0, (some 19), none, .mov (.t 1), []⟩, ⟨1, (some 20), none, .bin .leq (.t 19) (.c (.int .i64 256)), []⟩, ⟨2, (some 21), none, .mov (.t 20), []⟩, ⟨3, (some 22), (some (21, true)), .mov (.t 2), []⟩, ⟨4, (some 23), (some (21, true)), .bin .leq (.t 22) (.c (.int .i64 256)), []⟩, ⟨5, (some 24), none, .pick (.t 21) (.t 23) (.c (.bool false)), []⟩, ⟨6, (some 25), none, .mov (.t 24), []⟩, ⟨7, (some 26), (some (25, true)), .mov (.t 1), []⟩, ⟨8, (some 27), (some (25, true)), .mov (.t 2), []⟩, ⟨9, (some 28), (some (25, true)), .bin .add (.t 26) (.t 27), []⟩, ⟨10, (some 29), (some (25, true)), .bin .leq (.t 28) (.c (.int .i64 256)), []⟩, ⟨11, (some 30), none, .pick (.t 25) (.t 29) (.c (.bool false)), []⟩, ⟨12, (some 6), none, .mov (.t 30), []⟩]) .ret) .skip)) (.seq (.ops [⟨0, (some 31), none, .mov (.t 0), []⟩, ⟨1, (some 32), none, .bin .eql (.t 31) (.c (.int .i64 2)), []⟩, ⟨2, (some 33), none, .mov (.t 32), []⟩, ⟨3, (some 34), (some (33, true)), .mov (.t 1), []⟩, ⟨4, (some 35), (some (33, true)), .bin .leq (.t 34) (.c (.int .i64 65536)), []⟩, ⟨5, (some 36), none, .pick (.t 33) (.t 35) (.c (.bool false)), []⟩, ⟨6, (some 37), none, .mov (.t 36), []⟩, ⟨7, (some 38), (some (37, true)), .mov (.t 2), []⟩, ⟨8, (some 39), (some (37, true)), .bin .leq (.t 38) (.c (.int .i64 65536)), []⟩, ⟨9, (some 40), none, .pick (.t 37) (.t 39) (.c (.bool false)), []⟩, ⟨10, (some 41), none, .mov (.t 40), []⟩, ⟨11, (some 42), (some (41, true)), .mov (.t 2), []⟩, ⟨12, (some 43), (some (41, true)), .call (.c (.func (.func 33) #[] #[])) [.t 42], []⟩, ⟨13, (some 44), (some (41, true)), .mov (.t 1), []⟩, ⟨14, (some 45), (some (41, true)), .bin .add (.t 43) (.t 44), []⟩, ⟨15, (some 46), (some (41, true)), .bin .leq (.t 45) (.c (.int .i64 65536)), []⟩, ⟨16, (some 47), none, .pick (.t 41) (.t 46) (.c (.bool false)), []⟩, ⟨17, (some 6), none, .mov (.t 47), []⟩]) .ret)))
attribute [irreducible] c_cullettop_valid
theorem run_cullettop_valid {args : List Value} {w : World} {K : Value → World → Prop} (hn : args.length ≤ 48) (h : WP Try.prog c_cullettop_valid (endQ [.t 6] K) (initT args) w) : CallV Try.prog 32 args w K :=
  call_of follows Try.func32 (by kernel_rfl) (by kernel_rfl) hn h
def c_cullettop_pow2 : C := .seq (.ops [⟨0, (some 2), none, .mov (.c (.int .i64 0)), []⟩]) (.seq (.ops [⟨0, (some 3), none, .mov (.c (.int .i64 1)), []⟩]) (.seq (.block 0 (.loop (.seq (.seq (.ops [⟨0, (some 4), none, .mov (.t 3), []⟩, ⟨1, (some 5), none, .mov (.t 0), []⟩, ⟨2, (some 6), none, .bin .lss (.t 4) (.t 5), []⟩]) (.ite (.t 6) .skip (.exit 0))) (.block 1 (.ops [⟨0, (some 7), none, .mov (.t 3), []⟩, ⟨1, (some 8), none, .bin .mul (.t 7) (.c (.int .i64 2)), []⟩, ⟨2, (some 3), none, .mov (.t 8), []⟩]))))) (.seq (.ops [⟨0, (some 9), none, .mov (.t 3), []⟩, ⟨1, (some 2), none, .mov (.t 9), []⟩]) .ret)))
attribute [irreducible] c_cullettop_pow2
theorem run_cullettop_pow2 {args : List Value} {w : World} {K : Value → World → Prop} (hn : args.length ≤ 10) (h : WP Try.prog c_cullettop_pow2 (endQ [.t 2] K) (initT args) w) : CallV Try.prog 33 args w K :=
  call_of follows Try.func33 (by kernel_rfl) (by kernel_rfl) hn h
end Go.Proofs.Ytbaljbadlfopgaa.Fw
namespace Go.Proofs.Ytbaljbadlfopgaa.Fw
open Go Go.Fw
theorem cullettop_pow2_spec (w : World) (n : Nat) (hn : n ≤ 65536) : CallV Try.prog 33 [.int .i64 (n : Int)] w fun v w' => w' = w ∧ ∃ u, v = .int .i64 ((2 ^ u : Nat) : Int) ∧ n ≤ 2 ^ u ∧ u ≤ 16 ∧ ∀ e, e < u → 2 ^ e < n := by
  refine run_cullettop_pow2 (by simp) ?_
  simp only [c_cullettop_pow2, WS, List.getElem_cons_zero, List.getElem_cons_succ, Option.isNone_some, Option.isNone_none, List.getD_cons_zero, List.getD_cons_succ, I.at, atL, atO, atP, evp, evs, retV, ↓reduceIte, Nat.reduceEqDiff, reduceCtorEq]
  refine loop_of (fun t w' => w' = w ∧ t 0 = .int .i64 (n : Int) ∧ ∃ u : Nat, t 3 = .int .i64 ((2 ^ u : Nat) : Int) ∧ u ≤ 16 ∧ ∀ e, e < u → 2 ^ e < n) (fun t _ => 131072 - (toI (t 3)).toNat) ⟨rfl, by simp only [WS, List.getElem_cons_zero, List.getElem_cons_succ, Option.isNone_some, Option.isNone_none, List.getD_cons_zero, List.getD_cons_succ, I.at, atL, atO, atP, evp, evs, retV, ↓reduceIte, Nat.reduceEqDiff, reduceCtorEq], 0, by simp only [WS, List.getElem_cons_zero, List.getElem_cons_succ, Option.isNone_some, Option.isNone_none, List.getD_cons_zero, List.getD_cons_succ, I.at, atL, atO, atP, evp, evs, retV, ↓reduceIte, Nat.reduceEqDiff, reduceCtorEq]; rfl, by omega, fun e he => by omega⟩ ?_
  rintro t w' ⟨rfl, t0, u, t3, hu, hlo⟩
  have h0 := Nat.two_pow_pos u
  have h16 := pow_le16' hu
  have hs : 2 ^ (u + 1) = 2 ^ u * 2 := Nat.pow_succ ..
  by_cases hlt : 2 ^ u < n
  · simp (maxSteps := 1000000) (disch := omega) only [WS, List.getElem_cons_zero, List.getElem_cons_succ, Option.isNone_some, Option.isNone_none, List.getD_cons_zero, List.getD_cons_succ, I.at, atL, atO, atP, evp, evs, retV, ↓reduceIte, Nat.reduceEqDiff, reduceCtorEq, AS, t0, t3]
    refine ⟨⟨u + 1, by rw [hs], ?_, fun e he => ?_⟩, by simp only [Int.toNat_natCast]; omega⟩
    · by_cases h : u = 16
      · subst h; omega
      · omega
    · by_cases h : e = u
      · subst h; exact hlt
      · exact hlo e (by omega)
  · simp (maxSteps := 1000000) (disch := omega) only [WS, List.getElem_cons_zero, List.getElem_cons_succ, Option.isNone_some, Option.isNone_none, List.getD_cons_zero, List.getD_cons_succ, I.at, atL, atO, atP, evp, evs, retV, ↓reduceIte, Nat.reduceEqDiff, reduceCtorEq, AS, t0, t3]
    exact ⟨u, rfl, by omega, hu, hlo⟩
theorem blen_pow {m u : Nat} (hm : 1 ≤ m) (h1 : m ≤ 2 ^ u) (h2 : ∀ e, e < u → 2 ^ e < m) : blen (m - 1) = u := by
  cases u with
  | zero => have : m = 1 := by (simp at h1; omega)
            rw [this]; rfl
  | succ u =>
    have hq2 : 2 ^ (u + 1) = 2 * 2 ^ u := by rw [Nat.pow_succ, Nat.mul_comm]
    have := h2 u (by omega)
    exact blen_eq (by omega) (by omega)
theorem cullettop_valid_spec (w : World) (K M : Int) (hK : K ≤ 9223372036854775807) : CallV Try.prog 32 [.int .i64 2, .int .i64 K, .int .i64 M] w fun v w' => w' = w ∧ ∃ b, v = .bool b ∧ (b = true → ∃ k m u : Nat, K = (k : Int) ∧ M = (m : Int) ∧ 1 ≤ k ∧ 1 ≤ m ∧ m ≤ 2 ^ u ∧ (∀ e, e < u → 2 ^ e < m) ∧ 2 ^ u + k ≤ 65536) := by
  refine run_cullettop_valid (by simp) ?_
  simp only [c_cullettop_valid, WS, List.getElem_cons_zero, List.getElem_cons_succ, Option.isNone_some, Option.isNone_none, List.getD_cons_zero, List.getD_cons_succ, I.at, atL, atO, atP, evp, evs, retV, ↓reduceIte, Nat.reduceEqDiff, reduceCtorEq]
  by_cases h1 : K < 1
  · simp (maxSteps := 1000000) (disch := omega) only [WS, List.getElem_cons_zero, List.getElem_cons_succ, Option.isNone_some, Option.isNone_none, List.getD_cons_zero, List.getD_cons_succ, I.at, atL, atO, atP, evp, evs, retV, ↓reduceIte, Nat.reduceEqDiff, reduceCtorEq, AS]
    exact ⟨_, rfl, fun h => by cases h⟩
  by_cases h2 : M < 1
  · simp (maxSteps := 1000000) (disch := omega) only [WS, List.getElem_cons_zero, List.getElem_cons_succ, Option.isNone_some, Option.isNone_none, List.getD_cons_zero, List.getD_cons_succ, I.at, atL, atO, atP, evp, evs, retV, ↓reduceIte, Nat.reduceEqDiff, reduceCtorEq, AS]
    exact ⟨_, rfl, fun h => by cases h⟩
  obtain ⟨k, rfl⟩ : ∃ k : Nat, K = (k : Int) := ⟨K.toNat, by omega⟩
  obtain ⟨m, rfl⟩ : ∃ m : Nat, M = (m : Int) := ⟨M.toNat, by omega⟩
  by_cases h3 : 65536 < k
  · simp (maxSteps := 1000000) (disch := omega) only [WS, List.getElem_cons_zero, List.getElem_cons_succ, Option.isNone_some, Option.isNone_none, List.getD_cons_zero, List.getD_cons_succ, I.at, atL, atO, atP, evp, evs, retV, ↓reduceIte, Nat.reduceEqDiff, reduceCtorEq, AS, show decide ((2 : Int) = 0) = false from rfl, show decide ((2 : Int) = 1) = false from rfl, show decide ((2 : Int) = 2) = true from rfl]
    exact ⟨_, rfl, fun h => by cases h⟩
  by_cases h4 : 65536 < m
  · simp (maxSteps := 1000000) (disch := omega) only [WS, List.getElem_cons_zero, List.getElem_cons_succ, Option.isNone_some, Option.isNone_none, List.getD_cons_zero, List.getD_cons_succ, I.at, atL, atO, atP, evp, evs, retV, ↓reduceIte, Nat.reduceEqDiff, reduceCtorEq, AS, show decide ((2 : Int) = 0) = false from rfl, show decide ((2 : Int) = 1) = false from rfl, show decide ((2 : Int) = 2) = true from rfl]
    exact ⟨_, rfl, fun h => by cases h⟩
  simp (maxSteps := 1000000) (disch := omega) only [WS, List.getElem_cons_zero, List.getElem_cons_succ, Option.isNone_some, Option.isNone_none, List.getD_cons_zero, List.getD_cons_succ, I.at, atL, atO, atP, evp, evs, retV, ↓reduceIte, Nat.reduceEqDiff, reduceCtorEq, AS, show decide ((2 : Int) = 0) = false from rfl, show decide ((2 : Int) = 1) = false from rfl, show decide ((2 : Int) = 2) = true from rfl]
  refine X_call0 ((cullettop_pow2_spec w m (by omega)).mono ?_)
  rintro _ w' ⟨rfl, u, rfl, hu1, hu2, hu3⟩
  have h16 := pow_le16' hu2
  by_cases h5 : 2 ^ u + k ≤ 65536
  · simp (maxSteps := 1000000) (disch := omega) only [WS, List.getElem_cons_zero, List.getElem_cons_succ, Option.isNone_some, Option.isNone_none, List.getD_cons_zero, List.getD_cons_succ, I.at, atL, atO, atP, evp, evs, retV, ↓reduceIte, Nat.reduceEqDiff, reduceCtorEq, AS]
    exact ⟨_, rfl, fun _ => ⟨k, m, u, rfl, rfl, by omega, by omega, hu1, hu3, h5⟩⟩
  · simp (maxSteps := 1000000) (disch := omega) only [WS, List.getElem_cons_zero, List.getElem_cons_succ, Option.isNone_some, Option.isNone_none, List.getD_cons_zero, List.getD_cons_succ, I.at, atL, atO, atP, evp, evs, retV, ↓reduceIte, Nat.reduceEqDiff, reduceCtorEq, AS]
    exact ⟨_, rfl, fun h => by cases h⟩
theorem fct_law {u r i j : Nat} {m xs ys row : List (El 16)} {k : Nat} (hr : r ≤ 16) (hi : 2 ^ u + i < 2 ^ r) (hj : j < 2 ^ u) (hik : i < row.length)
    (hxs : xs = (List.range (2 ^ r - 2 ^ u)).map fun t => wel (2 ^ u + t)) (hys : ys = (List.replicate xs.length (0 : El 16)).set i 1)
    (hm : co m = nw (fun j => xs.getD j 0) (fun j => ys.getD j 0) 0 xs.length) (hrow : (co row).c i = fac u j i) :
    evl m (wel j) = row[i] := by
  have h16 := pow_le16' hr
  have h0 := Nat.two_pow_pos u
  have hxl : xs.length = 2 ^ r - 2 ^ u := by rw [hxs, List.length_map, List.length_range]
  have hx : ∀ t, t < 2 ^ r - 2 ^ u → xs.getD t 0 = wel (2 ^ u + t) := fun t ht => by
    rw [hxs, List.getD_eq_getElem?_getD, List.getElem?_map, List.getElem?_range ht]; rfl
  have hy : ∀ t, t < 2 ^ r - 2 ^ u → ys.getD t 0 = if t = i then 1 else 0 := fun t ht => by
    rw [hys, List.getD_eq_getElem?_getD]
    by_cases e : t = i
    · rw [if_pos e, e, List.getElem?_set_self (by rw [List.length_replicate]; omega)]; rfl
    · rw [if_neg e, List.getElem?_set_ne (fun h => e h.symm), List.getElem?_replicate]
      split <;> rfl
  rw [hxl] at hm
  have hd : ∀ a b, a < 2 ^ r - 2 ^ u → b < 2 ^ r - 2 ^ u → xs.getD a 0 = xs.getD b 0 → a = b := fun a b ha hb e => by
    rw [hx a ha, hx b hb] at e
    have := wel_inj (by omega) (by omega) e
    omega
  have hdg := nw_dg (fun j => xs.getD j 0) (fun j => ys.getD j 0) 0 (2 ^ r - 2 ^ u)
  have hev := nw_ev (fun j => xs.getD j 0) (fun j => ys.getD j 0) (2 ^ r - 2 ^ u) hd (2 ^ r - 2 ^ u) 0 (by omega)
  rw [← hm] at hdg hev
  rw [evl_co, evn_eq (co_dg m) hdg, factor_law u r i j (co m) hr hi hj hdg fun t ht => ?_, ← co_get row hik, hrow]
  · rfl
  · have := hev t ht
    simp only [Nat.zero_add] at this
    rw [hx t ht, hy t ht] at this
    exact this
theorem cullettop_WholeFactors_spec (w : World) (K M II JJ more : Int) (hK : K ≤ 9223372036854775807) : CallV Try.prog 10 [.agg #[.int .i64 K, .int .i64 M, .int .i64 II, .int .i64 JJ, .int .i64 more]] w fun v w' => v = .bool true ∧ RowKit.Below w.heap.size w w' := by
  refine run_cullettop_WholeFactors (by simp) ?_
  simp only [c_cullettop_WholeFactors, WS, List.getElem_cons_zero, List.getElem_cons_succ, Option.isNone_some, Option.isNone_none, List.getD_cons_zero, List.getD_cons_succ, I.at, atL, atO, atP, evp, evs, retV, ↓reduceIte, Nat.reduceEqDiff, reduceCtorEq]
  refine X_box fun bo w1 hro hbo hB => ?_
  have hro : Row w1 bo [.int .i64 K, .int .i64 M, .int .i64 II, .int .i64 JJ, .int .i64 more] := hro
  have B := hB
  clear hB
  simp (maxSteps := 1000000) (disch := omega) only [WS, List.getElem_cons_zero, List.getElem_cons_succ, Option.isNone_some, Option.isNone_none, List.getD_cons_zero, List.getD_cons_succ, I.at, atL, atO, atP, evp, evs, retV, ↓reduceIte, Nat.reduceEqDiff, reduceCtorEq, AS]
  refine WP_dops ?_
  have hd := hro.drew
  have B := B.trans ((bel_drew w1).mono B.size)
  simp (maxSteps := 1000000) (disch := omega) only [ES, List.mem_cons, List.not_mem_nil, implies_true, forall_const, WS, List.getElem_cons_zero, List.getElem_cons_succ, Option.isNone_some, Option.isNone_none, List.getD_cons_zero, List.getD_cons_succ, I.at, atL, atO, atP, evp, evs, retV, ↓reduceIte, Nat.reduceEqDiff, reduceCtorEq, AS, hd.Eld (show 0 < _ by simp), hd.Eld (show 1 < _ by simp), hd.Eld (show 2 < _ by simp), hd.Eld (show 3 < _ by simp), hd.Eld (show 4 < _ by simp)]
  revert B
  generalize w1.drew = w2
  intro B
  clear hd
  refine X_call0 ((cullettop_valid_spec w2 K M hK).mono ?_)
  rintro _ w' ⟨rfl, b, rfl, hb⟩
  refine W_monoQ (Q := fun t w => w = w' ∧ t 3 = .int .i64 K ∧ t 4 = .int .i64 M ∧ t 5 = .int .i64 II ∧ t 6 = .int .i64 JJ ∧ t 7 = .int .i64 more ∧ ∃ c : Bool, t 53 = .bool c ∧ (c = false → b = true ∧ 0 ≤ II ∧ II < K ∧ 0 ≤ JJ ∧ JJ < M)) (fun t w2 hR => ?_) _ _ _ ?_
  rotate_left
  · cases b with
    | false =>
      simp (maxSteps := 1000000) (disch := omega) only [WS, List.getElem_cons_zero, List.getElem_cons_succ, Option.isNone_some, Option.isNone_none, List.getD_cons_zero, List.getD_cons_succ, I.at, atL, atO, atP, evp, evs, retV, ↓reduceIte, Nat.reduceEqDiff, reduceCtorEq, AS]
      exact ⟨_, rfl, fun h => by cases h⟩
    | true =>
      by_cases c1 : II < 0
      · simp (maxSteps := 1000000) (disch := omega) only [WS, List.getElem_cons_zero, List.getElem_cons_succ, Option.isNone_some, Option.isNone_none, List.getD_cons_zero, List.getD_cons_succ, I.at, atL, atO, atP, evp, evs, retV, ↓reduceIte, Nat.reduceEqDiff, reduceCtorEq, AS]
        exact ⟨_, rfl, fun h => by cases h⟩
      by_cases c2 : K ≤ II
      · simp (maxSteps := 1000000) (disch := omega) only [WS, List.getElem_cons_zero, List.getElem_cons_succ, Option.isNone_some, Option.isNone_none, List.getD_cons_zero, List.getD_cons_succ, I.at, atL, atO, atP, evp, evs, retV, ↓reduceIte, Nat.reduceEqDiff, reduceCtorEq, AS]
        exact ⟨_, rfl, fun h => by cases h⟩
      by_cases c3 : JJ < 0
      · simp (maxSteps := 1000000) (disch := omega) only [WS, List.getElem_cons_zero, List.getElem_cons_succ, Option.isNone_some, Option.isNone_none, List.getD_cons_zero, List.getD_cons_succ, I.at, atL, atO, atP, evp, evs, retV, ↓reduceIte, Nat.reduceEqDiff, reduceCtorEq, AS]
        exact ⟨_, rfl, fun h => by cases h⟩
      by_cases c4 : M ≤ JJ
      · simp (maxSteps := 1000000) (disch := omega) only [WS, List.getElem_cons_zero, List.getElem_cons_succ, Option.isNone_some, Option.isNone_none, List.getD_cons_zero, List.getD_cons_succ, I.at, atL, atO, atP, evp, evs, retV, ↓reduceIte, Nat.reduceEqDiff, reduceCtorEq, AS]
        exact ⟨_, rfl, fun h => by cases h⟩
      simp (maxSteps := 1000000) (disch := omega) only [WS, List.getElem_cons_zero, List.getElem_cons_succ, Option.isNone_some, Option.isNone_none, List.getD_cons_zero, List.getD_cons_succ, I.at, atL, atO, atP, evp, evs, retV, ↓reduceIte, Nat.reduceEqDiff, reduceCtorEq, AS]
      exact ⟨_, rfl, fun _ => ⟨by omega, by omega, by omega, by omega⟩⟩
  obtain ⟨rfl, t3, t4, t5, t6, t7, c, t53, hc⟩ := hR
  simp (maxSteps := 1000000) (disch := omega) only [WS, List.getElem_cons_zero, List.getElem_cons_succ, Option.isNone_some, Option.isNone_none, List.getD_cons_zero, List.getD_cons_succ, I.at, atL, atO, atP, evp, evs, retV, ↓reduceIte, Nat.reduceEqDiff, reduceCtorEq, AS, t53]
  refine iteW_cut (fun t w => w = w2 ∧ t 7 = .int .i64 more ∧ ∃ k m i j u : Nat, t 3 = .int .i64 (k : Int) ∧ t 4 = .int .i64 (m : Int) ∧ t 5 = .int .i64 (i : Int) ∧ t 6 = .int .i64 (j : Int) ∧ 1 ≤ k ∧ 1 ≤ m ∧ m ≤ 2 ^ u ∧ (∀ e, e < u → 2 ^ e < m) ∧ 2 ^ u + k ≤ 65536 ∧ i < k ∧ j < m) ?_ fun t w3 hR => ?_
  · cases c with
    | true =>
      simp (maxSteps := 1000000) (disch := omega) only [WS, List.getElem_cons_zero, List.getElem_cons_succ, Option.isNone_some, Option.isNone_none, List.getD_cons_zero, List.getD_cons_succ, I.at, atL, atO, atP, evp, evs, retV, ↓reduceIte, Nat.reduceEqDiff, reduceCtorEq, AS]
      exact ⟨t7, 2, 3, 1, 2, 2, rfl, rfl, rfl, rfl, by omega, by omega, by decide, fun e he => by rcases (show e = 0 ∨ e = 1 by omega) with rfl | rfl <;> decide, by decide, by omega, by omega⟩
    | false =>
      obtain ⟨hbt, g1, g2, g3, g4⟩ := hc rfl
      obtain ⟨k, m, u, rfl, rfl, h1, h2, h3, h4, h5⟩ := hb hbt
      simp (maxSteps := 1000000) (disch := omega) only [WS, List.getElem_cons_zero, List.getElem_cons_succ, Option.isNone_some, Option.isNone_none, List.getD_cons_zero, List.getD_cons_succ, I.at, atL, atO, atP, evp, evs, retV, ↓reduceIte, Nat.reduceEqDiff, reduceCtorEq, AS]
      exact ⟨t7, k, m, II.toNat, JJ.toNat, u, t3, t4, by rw [t5, Int.toNat_of_nonneg g1], by rw [t6, Int.toNat_of_nonneg g3], h1, h2, h3, h4, h5, by omega, by omega⟩
  clear t3 t4 t5 t6 t7 t53 hc hb
  obtain ⟨rfl, t7, k, m, i, j, u, t3, t4, t5, t6, hk1, hm1, hmu, hml, hN, hik, hjm⟩ := hR
  have hbl := blen_pow hm1 hmu hml
  have hp := Nat.two_pow_pos u
  simp (maxSteps := 1000000) (disch := omega) only [WS, List.getElem_cons_zero, List.getElem_cons_succ, Option.isNone_some, Option.isNone_none, List.getD_cons_zero, List.getD_cons_succ, I.at, atL, atO, atP, evp, evs, retV, ↓reduceIte, Nat.reduceEqDiff, reduceCtorEq, AS, t3, t4, t5, t6, t7]
  refine X_call0 ((cullettop_pow2_spec w3 m (by omega)).mono ?_)
  rintro _ w' ⟨rfl, u', rfl, hu1, hu2, hu3⟩
  have hbl' := blen_pow hm1 hu1 hu3
  rw [hbl] at hbl'
  subst hbl'
  simp (maxSteps := 1000000) (disch := omega) only [WS, List.getElem_cons_zero, List.getElem_cons_succ, Option.isNone_some, Option.isNone_none, List.getD_cons_zero, List.getD_cons_succ, I.at, atL, atO, atP, evp, evs, retV, ↓reduceIte, Nat.reduceEqDiff, reduceCtorEq, AS, t3, t4, t5, t6, t7]
  refine X_call0 ((cullettop_pow2_spec w' (2 ^ u + k) hN).mono ?_)
  rintro _ w4 ⟨rfl, r0, rfl, hr1, hr2, -⟩
  simp (maxSteps := 1000000) (disch := omega) only [WS, List.getElem_cons_zero, List.getElem_cons_succ, Option.isNone_some, Option.isNone_none, List.getD_cons_zero, List.getD_cons_succ, I.at, atL, atO, atP, evp, evs, retV, ↓reduceIte, Nat.reduceEqDiff, reduceCtorEq, AS, t3, t4, t5, t6, t7]
  refine loop_of (fun t w2 => w2 = w4 ∧ t 3 = .int .i64 (k : Int) ∧ t 4 = .int .i64 (m : Int) ∧ t 5 = .int .i64 (i : Int) ∧ t 6 = .int .i64 (j : Int) ∧ t 7 = .int .i64 more ∧ t 8 = .int .i64 ((2 ^ u : Nat) : Int) ∧ ∃ n r : Nat, t 10 = .int .i64 (n : Int) ∧ n ≤ 3 ∧ t 9 = .int .i64 ((2 ^ r : Nat) : Int) ∧ r ≤ 16 ∧ 2 ^ u + k ≤ 2 ^ r) (fun t _ => 3 - (toI (t 10)).toNat)
    ⟨rfl, by simp only [WS, List.getElem_cons_zero, List.getElem_cons_succ, Option.isNone_some, Option.isNone_none, List.getD_cons_zero, List.getD_cons_succ, I.at, atL, atO, atP, evp, evs, retV, ↓reduceIte, Nat.reduceEqDiff, reduceCtorEq]; exact t3, by simp only [WS, List.getElem_cons_zero, List.getElem_cons_succ, Option.isNone_some, Option.isNone_none, List.getD_cons_zero, List.getD_cons_succ, I.at, atL, atO, atP, evp, evs, retV, ↓reduceIte, Nat.reduceEqDiff, reduceCtorEq]; exact t4, by simp only [WS, List.getElem_cons_zero, List.getElem_cons_succ, Option.isNone_some, Option.isNone_none, List.getD_cons_zero, List.getD_cons_succ, I.at, atL, atO, atP, evp, evs, retV, ↓reduceIte, Nat.reduceEqDiff, reduceCtorEq]; exact t5, by simp only [WS, List.getElem_cons_zero, List.getElem_cons_succ, Option.isNone_some, Option.isNone_none, List.getD_cons_zero, List.getD_cons_succ, I.at, atL, atO, atP, evp, evs, retV, ↓reduceIte, Nat.reduceEqDiff, reduceCtorEq]; exact t6, by simp only [WS, List.getElem_cons_zero, List.getElem_cons_succ, Option.isNone_some, Option.isNone_none, List.getD_cons_zero, List.getD_cons_succ, I.at, atL, atO, atP, evp, evs, retV, ↓reduceIte, Nat.reduceEqDiff, reduceCtorEq]; exact t7, by simp only [WS, List.getElem_cons_zero, List.getElem_cons_succ, Option.isNone_some, Option.isNone_none, List.getD_cons_zero, List.getD_cons_succ, I.at, atL, atO, atP, evp, evs, retV, ↓reduceIte, Nat.reduceEqDiff, reduceCtorEq], 0, r0, by simp only [WS, List.getElem_cons_zero, List.getElem_cons_succ, Option.isNone_some, Option.isNone_none, List.getD_cons_zero, List.getD_cons_succ, I.at, atL, atO, atP, evp, evs, retV, ↓reduceIte, Nat.reduceEqDiff, reduceCtorEq]; rfl, by omega, by simp only [WS, List.getElem_cons_zero, List.getElem_cons_succ, Option.isNone_some, Option.isNone_none, List.getD_cons_zero, List.getD_cons_succ, I.at, atL, atO, atP, evp, evs, retV, ↓reduceIte, Nat.reduceEqDiff, reduceCtorEq], hr2, hr1⟩ ?_
  clear t3 t4 t5 t6 t7 hr1 hr2
  rintro t w' ⟨rfl, t3, t4, t5, t6, t7, t8, n, r, t10, hn, t9, hr, hur⟩
  have hr16 := pow_le16' hr
  have hpr : 2 ^ (r + 1) = 2 ^ r * 2 := Nat.pow_succ ..
  rw [lZ34, lZ34, lZ30]
  refine W_monoQ (Q := fun t w => w = w' ∧ t 3 = .int .i64 (k : Int) ∧ t 4 = .int .i64 (m : Int) ∧ t 5 = .int .i64 (i : Int) ∧ t 6 = .int .i64 (j : Int) ∧ t 7 = .int .i64 more ∧ t 8 = .int .i64 ((2 ^ u : Nat) : Int) ∧ t 9 = .int .i64 ((2 ^ r : Nat) : Int) ∧ t 10 = .int .i64 (n : Int) ∧ ∃ c : Bool, t 70 = .bool c ∧ (c = true → n < 3 ∧ 2 ^ r < 65536)) (fun t2 w2 hR => ?_) _ _ _ ?_
  rotate_left
  · by_cases c1 : (n : Int) < more
    · by_cases c2 : n < 3
      · by_cases c3 : 2 ^ r < 65536
        · simp (maxSteps := 1000000) (disch := omega) only [WS, List.getElem_cons_zero, List.getElem_cons_succ, Option.isNone_some, Option.isNone_none, List.getD_cons_zero, List.getD_cons_succ, I.at, atL, atO, atP, evp, evs, retV, ↓reduceIte, Nat.reduceEqDiff, reduceCtorEq, AS, t3, t4, t5, t6, t7, t8, t9, t10]
          exact ⟨_, rfl, fun _ => ⟨c2, c3⟩⟩
        · simp (maxSteps := 1000000) (disch := omega) only [WS, List.getElem_cons_zero, List.getElem_cons_succ, Option.isNone_some, Option.isNone_none, List.getD_cons_zero, List.getD_cons_succ, I.at, atL, atO, atP, evp, evs, retV, ↓reduceIte, Nat.reduceEqDiff, reduceCtorEq, AS, t3, t4, t5, t6, t7, t8, t9, t10]
          exact ⟨_, rfl, fun h => by cases h⟩
      · simp (maxSteps := 1000000) (disch := omega) only [WS, List.getElem_cons_zero, List.getElem_cons_succ, Option.isNone_some, Option.isNone_none, List.getD_cons_zero, List.getD_cons_succ, I.at, atL, atO, atP, evp, evs, retV, ↓reduceIte, Nat.reduceEqDiff, reduceCtorEq, AS, t3, t4, t5, t6, t7, t8, t9, t10]
        exact ⟨_, rfl, fun h => by cases h⟩
    · simp (maxSteps := 1000000) (disch := omega) only [WS, List.getElem_cons_zero, List.getElem_cons_succ, Option.isNone_some, Option.isNone_none, List.getD_cons_zero, List.getD_cons_succ, I.at, atL, atO, atP, evp, evs, retV, ↓reduceIte, Nat.reduceEqDiff, reduceCtorEq, AS, t3, t4, t5, t6, t7, t8, t9, t10]
      exact ⟨_, rfl, fun h => by cases h⟩
  have hnot := t10
  clear t3 t4 t5 t6 t7 t8 t9
  obtain ⟨rfl, t3, t4, t5, t6, t7, t8, t9, s10, c, t70, hc⟩ := hR
  cases c with
  | true =>
    obtain ⟨g2, g3⟩ := hc rfl
    simp (maxSteps := 1000000) (disch := omega) only [WS, List.getElem_cons_zero, List.getElem_cons_succ, Option.isNone_some, Option.isNone_none, List.getD_cons_zero, List.getD_cons_succ, I.at, atL, atO, atP, evp, evs, retV, ↓reduceIte, Nat.reduceEqDiff, reduceCtorEq, AS, t3, t4, t5, t6, t7, t8, t9, s10, t70]
    refine ⟨⟨n + 1, r + 1, rfl, by omega, by rw [hpr], ?_, by omega⟩, by simp only [t10, toI_int]; omega⟩
    by_cases h : r = 16
    · subst h; omega
    · omega
  | false =>
  clear hc t10
  have hj : (j : Nat) < m := hjm
  simp (maxSteps := 1000000) (disch := omega) only [WS, List.getElem_cons_zero, List.getElem_cons_succ, Option.isNone_some, Option.isNone_none, List.getD_cons_zero, List.getD_cons_succ, I.at, atL, atO, atP, evp, evs, retV, ↓reduceIte, Nat.reduceEqDiff, reduceCtorEq, AS, t3, t4, t5, t6, t7, t8, t9, s10, t70]
  refine X_call0 ((gener_Words_spec w2 k m j hk1 hm1 (by omega) hj (by rw [hbl]; exact hN)).mono ?_)
  rw [hbl]
  rintro _ w5 ⟨rs, row, rfl, orow, hrl, hrow, hB⟩
  have hsr := orow.sl
  have B := B.trans (hB.mono B.size)
  clear hB
  simp (maxSteps := 1000000) (disch := omega) only [WS, List.getElem_cons_zero, List.getElem_cons_succ, Option.isNone_some, Option.isNone_none, List.getD_cons_zero, List.getD_cons_succ, I.at, atL, atO, atP, evp, evs, retV, ↓reduceIte, Nat.reduceEqDiff, reduceCtorEq, AS, t3, t4, t5, t6, t8, t9, hsr.Xlen, hrl]
  by_cases hbig : 1024 < 2 ^ r - 2 ^ u
  · simp (maxSteps := 1000000) (disch := omega) only [WS, List.getElem_cons_zero, List.getElem_cons_succ, Option.isNone_some, Option.isNone_none, List.getD_cons_zero, List.getD_cons_succ, I.at, atL, atO, atP, evp, evs, retV, ↓reduceIte, Nat.reduceEqDiff, reduceCtorEq, AS, t3, t4, t5, t6, t8, t9]
    exact B
  simp (maxSteps := 1000000) (disch := omega) only [WS, List.getElem_cons_zero, List.getElem_cons_succ, Option.isNone_some, Option.isNone_none, List.getD_cons_zero, List.getD_cons_succ, I.at, atL, atO, atP, evp, evs, retV, ↓reduceIte, Nat.reduceEqDiff, reduceCtorEq, AS, t3, t4, t5, t6, t8, t9]
  refine loop_of (fun t w' => t 5 = .int .i64 (i : Int) ∧ t 6 = .int .i64 (j : Int) ∧ t 9 = .int .i64 ((2 ^ r : Nat) : Int) ∧ t 11 = rs ∧ RowKit.Below w5.heap.size w5 w' ∧ ∃ (s : Nat) (sx : Value), t 14 = .int .i64 ((2 ^ u + s : Nat) : Int) ∧ s ≤ 2 ^ r - 2 ^ u ∧ t 13 = sx ∧ Ow w5.heap.size w' sx ((List.range s).map fun t => wel (2 ^ u + t))) (fun t _ => 2 ^ r - (toI (t 14)).toNat)
    ⟨by simp only [WS, List.getElem_cons_zero, List.getElem_cons_succ, Option.isNone_some, Option.isNone_none, List.getD_cons_zero, List.getD_cons_succ, I.at, atL, atO, atP, evp, evs, retV, ↓reduceIte, Nat.reduceEqDiff, reduceCtorEq]; exact t5, by simp only [WS, List.getElem_cons_zero, List.getElem_cons_succ, Option.isNone_some, Option.isNone_none, List.getD_cons_zero, List.getD_cons_succ, I.at, atL, atO, atP, evp, evs, retV, ↓reduceIte, Nat.reduceEqDiff, reduceCtorEq]; exact t6, by simp only [WS, List.getElem_cons_zero, List.getElem_cons_succ, Option.isNone_some, Option.isNone_none, List.getD_cons_zero, List.getD_cons_succ, I.at, atL, atO, atP, evp, evs, retV, ↓reduceIte, Nat.reduceEqDiff, reduceCtorEq]; exact t9, by simp only [WS, List.getElem_cons_zero, List.getElem_cons_succ, Option.isNone_some, Option.isNone_none, List.getD_cons_zero, List.getD_cons_succ, I.at, atL, atO, atP, evp, evs, retV, ↓reduceIte, Nat.reduceEqDiff, reduceCtorEq], RowKit.Below.refl _ _, 0, .slice none 0 0, by simp only [WS, List.getElem_cons_zero, List.getElem_cons_succ, Option.isNone_some, Option.isNone_none, List.getD_cons_zero, List.getD_cons_succ, I.at, atL, atO, atP, evp, evs, retV, ↓reduceIte, Nat.reduceEqDiff, reduceCtorEq]; rfl, by omega, by simp only [WS, List.getElem_cons_zero, List.getElem_cons_succ, Option.isNone_some, Option.isNone_none, List.getD_cons_zero, List.getD_cons_succ, I.at, atL, atO, atP, evp, evs, retV, ↓reduceIte, Nat.reduceEqDiff, reduceCtorEq], Or.inl ⟨rfl, rfl⟩⟩ ?_
  clear t3 t4 t5 t6 t7 t8 t9 s10 t70
  rintro t w6 ⟨t5, t6, t9, t11, C, s, sx, t14, hs, t13, ox⟩
  have hxl : ((List.range s).map fun t => wel (2 ^ u + t)).length = s := by rw [List.length_map, List.length_range]
  by_cases hlt : s < 2 ^ r - 2 ^ u
  · simp (maxSteps := 1000000) (disch := omega) only [WS, List.getElem_cons_zero, List.getElem_cons_succ, Option.isNone_some, Option.isNone_none, List.getD_cons_zero, List.getD_cons_succ, I.at, atL, atO, atP, evp, evs, retV, ↓reduceIte, Nat.reduceEqDiff, reduceCtorEq, AS, t5, t6, t9, t11, t13, t14]
    refine X_call0 ((gf16_Element_spec w6 ((2 ^ u + s : Nat) : Int)).mono ?_)
    rintro _ w7 ⟨hB, ⟨-, -, rfl⟩ | ⟨hbad, -⟩⟩
    rotate_left
    · exact absurd ⟨by omega, by omega⟩ hbad
    rw [Int.toNat_natCast]
    have ox := ox.up hB
    have C := C.trans (hB.mono C.size)
    clear hB
    simp (maxSteps := 1000000) (disch := omega) only [WS, List.getElem_cons_zero, List.getElem_cons_succ, Option.isNone_some, Option.isNone_none, List.getD_cons_zero, List.getD_cons_succ, I.at, atL, atO, atP, evp, evs, retV, ↓reduceIte, Nat.reduceEqDiff, reduceCtorEq, AS, t5, t6, t9, t11, t13, t14, show decide ((0 : Int) = 0) = true from rfl]
    refine X_bsl (zs := [wel (2 ^ u + s)]) (by rfl) (by rfl) fun e0 w8 oe hB => ?_
    have oe := oe.sl
    have ox := ox.up hB
    have C := C.trans (hB.mono C.size)
    clear hB
    simp (maxSteps := 1000000) (disch := omega) only [WS, List.getElem_cons_zero, List.getElem_cons_succ, Option.isNone_some, Option.isNone_none, List.getD_cons_zero, List.getD_cons_succ, I.at, atL, atO, atP, evp, evs, retV, ↓reduceIte, Nat.reduceEqDiff, reduceCtorEq, AS, t5, t6, t9, t11, t13, t14]
    refine Ow.Xapp ox oe C.size (by rw [hxl]; simp only [List.length_singleton, maxBytes]; omega) (by rw [hxl]; simp only [List.length_singleton]; omega) fun e1 w9 ox2 hg _ => ?_
    have C := Below.app C C.size hg fun b hb => (ox.blk b hb).1
    have he : ((List.range s).map fun t => wel (2 ^ u + t)) ++ [wel (2 ^ u + s)] = (List.range (s + 1)).map fun t => wel (2 ^ u + t) := by rw [List.range_succ, List.map_append]; rfl
    rw [he] at ox2
    simp (maxSteps := 1000000) (disch := omega) only [WS, List.getElem_cons_zero, List.getElem_cons_succ, Option.isNone_some, Option.isNone_none, List.getD_cons_zero, List.getD_cons_succ, I.at, atL, atO, atP, evp, evs, retV, ↓reduceIte, Nat.reduceEqDiff, reduceCtorEq, AS, t5, t6, t9, t11, t13, t14]
    exact ⟨⟨C, s + 1, e1, by rw [Nat.add_assoc], by omega, rfl, ox2⟩, by omega⟩
  have hse : s = 2 ^ r - 2 ^ u := by omega
  rw [hse] at ox hxl t14
  clear hs hlt hse s
  have osx := ox.sl
  generalize hxs : (List.range (2 ^ r - 2 ^ u)).map (fun t => wel (2 ^ u + t)) = xs at *
  have hsr := hsr.up C
  simp (maxSteps := 1000000) (disch := omega) only [WS, List.getElem_cons_zero, List.getElem_cons_succ, Option.isNone_some, Option.isNone_none, List.getD_cons_zero, List.getD_cons_succ, I.at, atL, atO, atP, evp, evs, retV, ↓reduceIte, Nat.reduceEqDiff, reduceCtorEq, AS, t5, t6, t9, t11, t13, t14, osx.Xlen, hxl]
  refine X_mks (x := (0 : El 16)) (by simp only [maxBytes]; omega) (by omega) fun sy w7 oy hB => ?_
  have iy : i < (List.replicate (2 ^ r - 2 ^ u) (0 : El 16)).length := by rw [List.length_replicate]; omega
  simp (maxSteps := 1000000) (disch := omega) only [WS, List.getElem_cons_zero, List.getElem_cons_succ, Option.isNone_some, Option.isNone_none, List.getD_cons_zero, List.getD_cons_succ, I.at, atL, atO, atP, evp, evs, retV, ↓reduceIte, Nat.reduceEqDiff, reduceCtorEq, AS, t5, t6, t9, t11, t13, oy.sl.Xix iy]
  refine Ow.Xst oy iy (1 : El 16) fun w8 oy2 hg => ?_
  have hB := hB.grown hg hB.size fun b hb => (oy.blk b hb).1
  have osx := osx.up hB
  have hsr := hsr.up hB
  have C := C.trans (hB.mono C.size)
  clear hB
  clear hg oy
  have hyl : ((List.replicate (2 ^ r - 2 ^ u) (0 : El 16)).set i 1).length = 2 ^ r - 2 ^ u := by rw [List.length_set, List.length_replicate]
  have oys := oy2.sl
  clear oy2
  generalize hys : (List.replicate (2 ^ r - 2 ^ u) (0 : El 16)).set i 1 = ys at *
  simp (maxSteps := 1000000) (disch := omega) only [WS, List.getElem_cons_zero, List.getElem_cons_succ, Option.isNone_some, Option.isNone_none, List.getD_cons_zero, List.getD_cons_succ, I.at, atL, atO, atP, evp, evs, retV, ↓reduceIte, Nat.reduceEqDiff, reduceCtorEq, AS, t5, t6, t9, t11, t13]
  refine X_call0 ((polys_Over16_spec w8).mono ?_)
  rintro pr w9 ⟨hpr2, hB, -⟩
  have osx := osx.up hB
  have hsr := hsr.up hB
  have oys := oys.up hB
  have C := C.trans (hB.mono C.size)
  clear hB
  simp (maxSteps := 1000000) (disch := omega) only [WS, List.getElem_cons_zero, List.getElem_cons_succ, Option.isNone_some, Option.isNone_none, List.getD_cons_zero, List.getD_cons_succ, I.at, atL, atO, atP, evp, evs, retV, ↓reduceIte, Nat.reduceEqDiff, reduceCtorEq, AS, t5, t6, t9, t11, t13]
  refine X_call0 ((polys_Ring_w_Interpolate_spec w9 pr sx sy xs ys hpr2 osx oys (by omega) (by omega)).mono ?_)
  rintro vv w10 ⟨hB, hres⟩
  have hdist : ∀ a b, a < xs.length → b < xs.length → xs.getD a 0 = xs.getD b 0 → a = b := fun a b ha hb e => by
    rw [hxl] at ha hb
    rw [← hxs] at e
    rw [List.getD_eq_getElem?_getD, List.getD_eq_getElem?_getD, List.getElem?_map, List.getElem?_map, List.getElem?_range ha, List.getElem?_range hb] at e
    have := wel_inj (by omega) (by omega) (show wel (2 ^ u + a) = wel (2 ^ u + b) from e)
    omega
  obtain ⟨sf, mf, rfl, om, cm, lm⟩ : ∃ sf mf, vv = .tuple #[sf, .int .i64 0] ∧ Ow w9.heap.size w10 sf mf ∧ co mf = nw (fun j => xs.getD j 0) (fun j => ys.getD j 0) 0 xs.length ∧ mf.length ≤ xs.length := by
    rcases hres with ⟨-, -, -, -, sf, mf, h1, h2, -, h4, h5⟩ | ⟨-, -, h9, -⟩ | ⟨-, -, -, h9, -⟩ | ⟨h9, -⟩
    · exact ⟨sf, mf, h1, h2, h4, h5⟩
    · exact absurd (by omega) h9
    · exact absurd hdist h9
    · exact absurd ⟨by omega, by omega⟩ h9
  clear hres hdist
  have om := om.sl
  have hsr := hsr.up hB
  have hpr2 := hpr2.up hB
  have C := C.trans (hB.mono C.size)
  clear hB
  simp (maxSteps := 1000000) (disch := omega) only [WS, List.getElem_cons_zero, List.getElem_cons_succ, Option.isNone_some, Option.isNone_none, List.getD_cons_zero, List.getD_cons_succ, I.at, atL, atO, atP, evp, evs, retV, ↓reduceIte, Nat.reduceEqDiff, reduceCtorEq, AS, t5, t6, t9, t11, t13]
  refine X_call0 ((gf16_Element_spec w10 (j : Int)).mono ?_)
  rintro _ w11 ⟨hB, ⟨-, -, rfl⟩ | ⟨hbad, -⟩⟩
  rotate_left
  · exact absurd ⟨by omega, by omega⟩ hbad
  rw [Int.toNat_natCast]
  have hsr := hsr.up hB
  have hpr2 := hpr2.up hB
  have om := om.up hB
  have C := C.trans (hB.mono C.size)
  clear hB
  have hlaw := fct_law (u := u) (r := r) (i := i) (j := j) (m := mf) (xs := xs) (ys := ys) (row := row) (k := k) hr (by omega) (by omega) (by omega) hxs.symm (by rw [hxl]; exact hys.symm) cm (hrow i (by omega))
  have ir : i < row.length := by omega
  have dt : ∀ e : Int, decide (e = e) = true := fun e => decide_eq_true rfl
  have C := C.trans ((bel_drew w11).mono C.size)
  have om := om.drew
  have hsr := hsr.drew
  have hpr2 := hpr2.up (bel_drew w11)
  simp (maxSteps := 1000000) (disch := omega) only [WS, List.getElem_cons_zero, List.getElem_cons_succ, Option.isNone_some, Option.isNone_none, List.getD_cons_zero, List.getD_cons_succ, I.at, atL, atO, atP, evp, evs, retV, ↓reduceIte, Nat.reduceEqDiff, reduceCtorEq, AS, t5, t6, t9, t11, t13]
  refine WP_dops ?_
  have see : Fw.sees Try.prog (.ld (.c (elP rs i))) w11.drew (.int .u16 (row[i].v.toNat : Int)) = True := hsr.sees ir Try.prog
  simp (maxSteps := 1000000) (disch := omega) only [ES, List.mem_cons, List.not_mem_nil, implies_true, forall_const, WS, List.getElem_cons_zero, List.getElem_cons_succ, Option.isNone_some, Option.isNone_none, List.getD_cons_zero, List.getD_cons_succ, I.at, atL, atO, atP, evp, evs, retV, ↓reduceIte, Nat.reduceEqDiff, reduceCtorEq, AS, t5, t6, t9, t11, t13, dt]
  refine E_call0 ((polys_Ring_w_Eval_spec w11.drew pr sf mf (wel j) hpr2 om (by omega)).mono ?_)
  rintro _ w12 ⟨rfl, hB⟩
  have hsr := hsr.up hB
  have C := C.trans (hB.mono C.size)
  simp (maxSteps := 1000000) (disch := omega) only [ES, List.mem_cons, List.not_mem_nil, implies_true, forall_const, WS, List.getElem_cons_zero, List.getElem_cons_succ, Option.isNone_some, Option.isNone_none, List.getD_cons_zero, List.getD_cons_succ, I.at, atL, atO, atP, evp, evs, retV, ↓reduceIte, Nat.reduceEqDiff, reduceCtorEq, AS, t5, t6, t9, t11, t13, dt, hsr.Eix ir, hsr.Eld ir, cell_e16, see, hlaw]
  exact B.trans (C.mono B.size)
end Go.Proofs.Ytbaljbadlfopgaa.Fw
