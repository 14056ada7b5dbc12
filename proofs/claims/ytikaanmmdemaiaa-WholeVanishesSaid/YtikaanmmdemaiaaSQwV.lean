import Derived.Test.YtikaanmmdemaiaaProg
import Derived.Test.YtikaanmmdemaiaaFwTV
import Derived.Test.YtikaanmmdemaiaaSQeV
import Derived.Test.YtikaanmmdemaiaaGfOV
set_option linter.all false
set_option linter.unusedVariables false
set_option linter.unusedSimpArgs false
set_option maxRecDepth 100000
set_option maxHeartbeats 1000000
namespace Go.Proofs.Ytikaanmmdemaiaa.Fw
open Go Go.Fw Go.Proofs
attribute [local irreducible] stepI
def c_cullettop_WholeVanishes : C := .seq (.ops [⟨0, (some 4), none, .mov (.c (.bool false)), []⟩]) (.seq (.seq (.ops [⟨0, (some 23), none, .mov (.t 0), []⟩, ⟨1, (some 24), none, .bin .lss (.t 23) (.c (.int .i64 0)), []⟩, ⟨2, (some 25), none, .mov (.t 24), []⟩, ⟨3, (some 26), (some (25, false)), .mov (.t 0), []⟩, ⟨4, (some 27), (some (25, false)), .bin .gtr (.t 26) (.c (.int .i64 9)), []⟩, ⟨5, (some 28), none, .pick (.t 25) (.c (.bool true)) (.t 27), []⟩]) (.ite (.t 28) (.ops [⟨0, (some 0), none, .mov (.c (.int .i64 3)), []⟩]) .skip)) (.seq (.ops [⟨0, (some 29), none, .call (.c (.func (.func 13) #[] #[])) [], []⟩, ⟨1, (some 5), none, .mov (.t 29), []⟩]) (.seq (.ops [⟨0, (some 6), none, .mov (.c (.slice none 0 0)), []⟩]) (.seq (.seq (.ops [⟨0, (some 7), none, .mov (.c (.int .i64 0)), []⟩]) (.block 0 (.loop (.seq (.seq (.ops [⟨0, (some 30), none, .mov (.t 7), []⟩, ⟨1, (some 31), none, .mov (.t 0), []⟩, ⟨2, (some 32), none, .bin .shl (.c (.int .i64 1)) (.t 31), []⟩, ⟨3, (some 33), none, .bin .lss (.t 30) (.t 32), []⟩]) (.ite (.t 33) .skip (.exit 0))) (.seq (.block 1 (.seq (.ops [⟨0, (some 37), none, .mov (.t 7), []⟩, ⟨1, (some 38), none, .call (.c (.func (.func 14) #[] #[])) [.t 37], []⟩, ⟨2, (some 36), none, .mov (.t 38), []⟩, ⟨3, (some 39), none, .ext (.t 36) 0, []⟩, ⟨4, (some 40), none, .ext (.t 36) 1, []⟩, ⟨5, (some 8), none, .mov (.t 39), []⟩, ⟨6, (some 9), none, .mov (.t 40), []⟩]) (.seq (.seq (.ops [⟨0, (some 41), none, .mov (.t 9), []⟩, ⟨1, (some 42), none, .bin .neq (.t 41) (.c (.int .i64 0)), []⟩]) (.ite (.t 42) (.seq (.ops [⟨0, (some 4), none, .mov (.c (.bool false)), []⟩]) .ret) .skip)) (.ops [⟨0, (some 43), none, .mov (.t 6), []⟩, ⟨1, (some 44), none, .mov (.t 8), []⟩, ⟨2, (some 45), none, .bsl 26 1 [.int .u16 0] [(0, (1, .t 44))], []⟩, ⟨3, (some 46), none, .app 26 2 [.int .u16 0] (.t 43) (.t 45), []⟩, ⟨4, (some 6), none, .mov (.t 46), []⟩])))) (.ops [⟨0, (some 34), none, .mov (.t 7), []⟩, ⟨1, (some 35), none, .bin .add (.t 34) (.c (.int .i64 1)), []⟩, ⟨2, (some 7), none, .mov (.t 35), []⟩])))))) (.seq (.ops [⟨0, (some 48), none, .mov (.t 5), []⟩, ⟨1, (some 49), none, .mov (.t 6), []⟩, ⟨2, (some 50), none, .call (.c (.func (.func 15) #[] #[])) [.t 48, .t 49], []⟩, ⟨3, (some 47), none, .mov (.t 50), []⟩, ⟨4, (some 51), none, .ext (.t 47) 0, []⟩, ⟨5, (some 52), none, .ext (.t 47) 1, []⟩, ⟨6, (some 10), none, .mov (.t 51), []⟩, ⟨7, (some 11), none, .mov (.t 52), []⟩]) (.seq (.ops [⟨0, (some 54), none, .mov (.t 0), []⟩, ⟨1, (some 55), none, .call (.c (.func (.func 16) #[] #[])) [.t 54], []⟩, ⟨2, (some 53), none, .mov (.t 55), []⟩, ⟨3, (some 56), none, .ext (.t 53) 0, []⟩, ⟨4, (some 57), none, .ext (.t 53) 1, []⟩, ⟨5, (some 12), none, .mov (.t 56), []⟩, ⟨6, (some 13), none, .mov (.t 57), []⟩]) (.seq (.seq (.ops [⟨0, (some 58), none, .mov (.t 11), []⟩, ⟨1, (some 59), none, .bin .neq (.t 58) (.c (.int .i64 0)), []⟩, ⟨2, (some 60), none, .mov (.t 59), []⟩, ⟨3, (some 61), (some (60, false)), .mov (.t 13), []⟩, ⟨4, (some 62), (some (60, false)), .bin .neq (.t 61) (.c (.int .i64 0)), []⟩, ⟨5, (some 63), none, .pick (.t 60) (.c (.bool true)) (.t 62), []⟩, ⟨6, (some 64), none, .mov (.t 63), []⟩, ⟨7, (some 65), (some (64, false)), .mov (.t 10), []⟩, ⟨8, (some 66), (some (64, false)), .len (.t 65), []⟩, ⟨9, (some 67), (some (64, false)), .mov (.t 0), []⟩, ⟨10, (some 68), (some (64, false)), .bin .shl (.c (.int .i64 1)) (.t 67), []⟩, ⟨11, (some 69), (some (64, false)), .bin .add (.t 68) (.c (.int .i64 1)), []⟩, ⟨12, (some 70), (some (64, false)), .bin .neq (.t 66) (.t 69), []⟩, ⟨13, (some 71), none, .pick (.t 64) (.c (.bool true)) (.t 70), []⟩, ⟨14, (some 72), none, .mov (.t 71), []⟩, ⟨15, (some 73), (some (72, false)), .mov (.t 12), []⟩, ⟨16, (some 74), (some (72, false)), .len (.t 73), []⟩, ⟨17, (some 75), (some (72, false)), .mov (.t 0), []⟩, ⟨18, (some 76), (some (72, false)), .bin .add (.t 75) (.c (.int .i64 1)), []⟩, ⟨19, (some 77), (some (72, false)), .bin .neq (.t 74) (.t 76), []⟩, ⟨20, (some 78), none, .pick (.t 72) (.c (.bool true)) (.t 77), []⟩]) (.ite (.t 78) (.seq (.ops [⟨0, (some 4), none, .mov (.c (.bool false)), []⟩]) .ret) .skip)) (.seq (.ops [⟨0, (some 79), none, .mov (.t 0), []⟩, ⟨1, (some 80), none, .bin .shl (.c (.int .i64 1)) (.t 79), []⟩, ⟨2, (some 81), none, .bin .add (.t 80) (.c (.int .i64 1)), []⟩, ⟨3, (some 82), none, .mks 26 2 [.int .u16 0] (.t 81) (.t 81), []⟩, ⟨4, (some 14), none, .mov (.t 82), []⟩]) (.seq (.seq (.ops [⟨0, (some 83), none, .mov (.t 12), []⟩, ⟨1, (some 84), none, .len (.t 83), []⟩, ⟨2, (some 85), none, .mov (.c (.int .i64 0)), []⟩]) (.block 2 (.loop (.seq (.ops [⟨0, (some 86), none, .bin .lss (.t 85) (.t 84), []⟩]) (.seq (.ite (.t 86) .skip (.exit 2)) (.seq (.block 3 (.seq (.ops [⟨0, (some 87), none, .mov (.t 85), []⟩, ⟨1, (some 88), none, .ixs 1 (.t 83) (.t 85), []⟩, ⟨2, (some 89), none, .ld (.t 88), []⟩, ⟨3, (some 15), none, .mov (.t 87), []⟩, ⟨4, (some 16), none, .mov (.t 89), []⟩]) (.ops [⟨0, (some 90), none, .mov (.t 14), []⟩, ⟨1, (some 91), none, .mov (.t 15), []⟩, ⟨2, (some 92), none, .bin .shl (.c (.int .i64 1)) (.t 91), []⟩, ⟨3, (some 93), none, .mov (.t 16), []⟩, ⟨4, (some 94), none, .ixs 1 (.t 90) (.t 92), []⟩, ⟨5, none, none, .st (.t 94) (.t 93), []⟩]))) (.ops [⟨0, (some 95), none, .bin .add (.t 85) (.c (.int .i64 1)), []⟩, ⟨1, (some 85), none, .mov (.t 95), []⟩]))))))) (.seq (.seq (.ops [⟨0, (some 96), none, .mov (.t 10), []⟩, ⟨1, (some 97), none, .mov (.t 14), []⟩, ⟨2, (some 98), none, .call (.c (.func (.func 9) #[] #[])) [.t 96, .t 97], []⟩, ⟨3, (some 99), none, .un .not (.t 98), []⟩]) (.ite (.t 99) (.seq (.ops [⟨0, (some 4), none, .mov (.c (.bool false)), []⟩]) .ret) .skip)) (.seq (.ops [⟨0, (some 101), none, .mov (.t 1), []⟩, ⟨1, (some 102), none, .cnv .i64 (.t 101), []⟩, ⟨2, (some 103), none, .call (.c (.func (.func 14) #[] #[])) [.t 102], []⟩, ⟨3, (some 100), none, .mov (.t 103), []⟩, ⟨4, (some 104), none, .ext (.t 100) 0, []⟩, ⟨5, (some 105), none, .ext (.t 100) 1, []⟩, ⟨6, (some 17), none, .mov (.t 104), []⟩, ⟨7, (some 18), none, .mov (.t 105), []⟩]) (.seq (.ops [⟨0, (some 107), none, .mov (.t 1), []⟩, ⟨1, (some 108), none, .cnv .i64 (.t 107), []⟩, ⟨2, (some 109), none, .mov (.t 0), []⟩, ⟨3, (some 110), none, .bin .shr (.t 108) (.t 109), []⟩, ⟨4, (some 111), none, .call (.c (.func (.func 14) #[] #[])) [.t 110], []⟩, ⟨5, (some 106), none, .mov (.t 111), []⟩, ⟨6, (some 112), none, .ext (.t 106) 0, []⟩, ⟨7, (some 113), none, .ext (.t 106) 1, []⟩, ⟨8, (some 19), none, .mov (.t 112), []⟩, ⟨9, (some 20), none, .mov (.t 113), []⟩]) (.seq (.ops [⟨0, (some 115), none, .mov (.t 0), []⟩, ⟨1, (some 116), none, .mov (.t 17), []⟩, ⟨2, (some 117), none, .call (.c (.func (.func 17) #[] #[])) [.t 115, .t 116], []⟩, ⟨3, (some 114), none, .mov (.t 117), []⟩, ⟨4, (some 118), none, .ext (.t 114) 0, []⟩, ⟨5, (some 119), none, .ext (.t 114) 1, []⟩, ⟨6, (some 21), none, .mov (.t 118), []⟩, ⟨7, (some 11), none, .mov (.t 119), []⟩]) (.seq (.ops [⟨0, (some 121), none, .mov (.t 0), []⟩, ⟨1, (some 122), none, .mov (.t 1), []⟩, ⟨2, (some 123), none, .cnv .i64 (.t 122), []⟩, ⟨3, (some 124), none, .call (.c (.func (.func 18) #[] #[])) [.t 121, .t 123], []⟩, ⟨4, (some 120), none, .mov (.t 124), []⟩, ⟨5, (some 125), none, .ext (.t 120) 0, []⟩, ⟨6, (some 126), none, .ext (.t 120) 1, []⟩, ⟨7, (some 22), none, .mov (.t 125), []⟩, ⟨8, (some 13), none, .mov (.t 126), []⟩]) (.seq (.ops [⟨0, (some 127), none, .mov (.t 11), []⟩, ⟨1, (some 128), none, .bin .eql (.t 127) (.c (.int .i64 0)), []⟩, ⟨2, (some 129), none, .mov (.t 128), []⟩, ⟨3, (some 130), (some (129, true)), .mov (.t 13), []⟩, ⟨4, (some 131), (some (129, true)), .bin .eql (.t 130) (.c (.int .i64 0)), []⟩, ⟨5, (some 132), none, .pick (.t 129) (.t 131) (.c (.bool false)), []⟩, ⟨6, (some 133), none, .mov (.t 132), []⟩, ⟨7, (some 134), (some (133, true)), .mov (.t 5), []⟩, ⟨8, (some 135), (some (133, true)), .mov (.t 10), []⟩, ⟨9, (some 136), (some (133, true)), .mov (.t 17), []⟩, ⟨10, (some 137), (some (133, true)), .call (.c (.func (.func 19) #[] #[])) [.t 134, .t 135, .t 136], []⟩, ⟨11, (some 138), (some (133, true)), .mov (.t 19), []⟩, ⟨12, (some 139), (some (133, true)), .bin .eql (.t 137) (.t 138), []⟩, ⟨13, (some 140), none, .pick (.t 133) (.t 139) (.c (.bool false)), []⟩, ⟨14, (some 141), none, .mov (.t 140), []⟩, ⟨15, (some 142), (some (141, true)), .mov (.t 21), []⟩, ⟨16, (some 143), (some (141, true)), .mov (.t 19), []⟩, ⟨17, (some 144), (some (141, true)), .bin .eql (.t 142) (.t 143), []⟩, ⟨18, (some 145), none, .pick (.t 141) (.t 144) (.c (.bool false)), []⟩, ⟨19, (some 146), none, .mov (.t 145), []⟩, ⟨20, (some 147), (some (146, true)), .mov (.t 22), []⟩, ⟨21, (some 148), (some (146, true)), .mov (.t 19), []⟩, ⟨22, (some 149), (some (146, true)), .bin .eql (.t 147) (.t 148), []⟩, ⟨23, (some 150), none, .pick (.t 146) (.t 149) (.c (.bool false)), []⟩, ⟨24, (some 4), none, .mov (.t 150), []⟩]) .ret)))))))))))))))
attribute [irreducible] c_cullettop_WholeVanishes
theorem run_cullettop_WholeVanishes {args : List Value} {w : World} {K : Value → World → Prop} (hn : args.length ≤ 151) (h : WP Try.prog c_cullettop_WholeVanishes (endQ [.t 4] K) (initT args) w) : CallV Try.prog 4 args w K :=
  call_of follows Try.func4 (by kernel_rfl) (by kernel_rfl) hn h
def c_cullettop_words : C := .seq (.ops [⟨0, (some 4), none, .mov (.c (.bool false)), []⟩]) (.seq (.seq (.ops [⟨0, (some 6), none, .mov (.t 0), []⟩, ⟨1, (some 7), none, .len (.t 6), []⟩, ⟨2, (some 8), none, .mov (.t 1), []⟩, ⟨3, (some 9), none, .len (.t 8), []⟩, ⟨4, (some 10), none, .bin .neq (.t 7) (.t 9), []⟩]) (.ite (.t 10) (.seq (.ops [⟨0, (some 4), none, .mov (.c (.bool false)), []⟩]) .ret) .skip)) (.seq (.seq (.ops [⟨0, (some 11), none, .mov (.t 0), []⟩, ⟨1, (some 12), none, .len (.t 11), []⟩, ⟨2, (some 13), none, .mov (.c (.int .i64 0)), []⟩]) (.block 0 (.loop (.seq (.ops [⟨0, (some 14), none, .bin .lss (.t 13) (.t 12), []⟩]) (.seq (.ite (.t 14) .skip (.exit 0)) (.seq (.block 1 (.seq (.ops [⟨0, (some 15), none, .mov (.t 13), []⟩, ⟨1, (some 5), none, .mov (.t 15), []⟩]) (.seq (.dops [⟨0, (some 16), none, .mov (.t 0), []⟩, ⟨1, (some 17), none, .mov (.t 5), []⟩, ⟨2, (some 18), none, .ixs 1 (.t 16) (.t 17), []⟩, ⟨3, (some 19), none, .ld (.t 18), []⟩, ⟨4, (some 20), none, .mov (.t 1), []⟩, ⟨5, (some 21), none, .mov (.t 5), []⟩, ⟨6, (some 22), none, .ixs 1 (.t 20) (.t 21), []⟩, ⟨7, (some 23), none, .ld (.t 22), []⟩, ⟨8, (some 24), none, .bin .neq (.t 19) (.t 23), []⟩]) (.ite (.t 24) (.seq (.ops [⟨0, (some 4), none, .mov (.c (.bool false)), []⟩]) .ret) .skip)))) (.ops [⟨0, (some 25), none, .bin .add (.t 13) (.c (.int .i64 1)), []⟩, ⟨1, (some 13), none, .mov (.t 25), []⟩]))))))) (.seq (.ops [⟨0, (some 4), none, .mov (.c (.bool true)), []⟩]) .ret)))
attribute [irreducible] c_cullettop_words
theorem run_cullettop_words {args : List Value} {w : World} {K : Value → World → Prop} (hn : args.length ≤ 26) (h : WP Try.prog c_cullettop_words (endQ [.t 4] K) (initT args) w) : CallV Try.prog 9 args w K :=
  call_of follows Try.func9 (by kernel_rfl) (by kernel_rfl) hn h
end Go.Proofs.Ytikaanmmdemaiaa.Fw
namespace Go.Proofs.Ytikaanmmdemaiaa.Fw
open Go Go.Fw
theorem cullettop_words_spec (w : World) (s1 s2 : Value) (l1 l2 : List (El 16)) (h1 : Sl w s1 l1) (h2 : Sl w s2 l2) (hb : l1.length ≤ 140737488355328) (hb2 : l2.length ≤ 140737488355328) :
    CallV Try.prog 9 [s1, s2] w fun v w' => v = .bool (decide (l1 = l2)) ∧ Like w w' := by
  refine run_cullettop_words (by simp) ?_
  simp only [c_cullettop_words, WS, List.getElem_cons_zero, List.getElem_cons_succ, Option.isNone_some, Option.isNone_none, List.getD_cons_zero, List.getD_cons_succ, I.at, atL, atO, atP, evp, evs, retV, ↓reduceIte, Nat.reduceEqDiff, reduceCtorEq, h1.Xlen, h2.Xlen]
  by_cases hl : l1.length = l2.length
  · simp only [WS, List.getElem_cons_zero, List.getElem_cons_succ, Option.isNone_some, Option.isNone_none, List.getD_cons_zero, List.getD_cons_succ, I.at, atL, atO, atP, evp, evs, retV, ↓reduceIte, Nat.reduceEqDiff, reduceCtorEq, show decide ((l1.length : Int) = (l2.length : Int)) = true from decide_eq_true (by omega), h1.Xlen]
    refine loop_of (fun t w' => Like w w' ∧ t 0 = s1 ∧ t 1 = s2 ∧ t 12 = .int .i64 (l1.length : Int) ∧ ∃ i : Nat, t 13 = .int .i64 (i : Int) ∧ i ≤ l1.length ∧ l1.take i = l2.take i) (fun t _ => l1.length - (toI (t 13)).toNat) ⟨Like.refl w, rfl, rfl, rfl, 0, rfl, by omega, by simp⟩ ?_
    rintro t w' ⟨hk, t0, t1, t12, i, t13, hi, he⟩
    have g1 := hk.sl h1
    have g2 := hk.sl h2
    by_cases hlt : i < l1.length
    · have hlt2 : i < l2.length := by omega
      simp only [WS, List.getElem_cons_zero, List.getElem_cons_succ, Option.isNone_some, Option.isNone_none, List.getD_cons_zero, List.getD_cons_succ, I.at, atL, atO, atP, evp, evs, retV, ↓reduceIte, Nat.reduceEqDiff, reduceCtorEq, t0, t1, t12, t13, g1.Xlen, show decide ((i : Int) < (l1.length : Int)) = true from decide_eq_true (by omega)]
      refine WP_dops ?_
      simp only [ES, List.mem_cons, List.not_mem_nil, implies_true, forall_const, WS, List.getElem_cons_zero, List.getElem_cons_succ, Option.isNone_some, Option.isNone_none, List.getD_cons_zero, List.getD_cons_succ, I.at, atL, atO, atP, evp, evs, retV, ↓reduceIte, Nat.reduceEqDiff, reduceCtorEq, t0, t1, t12, t13, g1.drew.Eix hlt, g1.drew.Eld hlt, g2.drew.Eix hlt2, g2.drew.Eld hlt2, cell_e16, el_eq]
      by_cases hx : l1[i] = l2[i]
      · simp only [WS, List.getElem_cons_zero, List.getElem_cons_succ, Option.isNone_some, Option.isNone_none, List.getD_cons_zero, List.getD_cons_succ, I.at, atL, atO, atP, evp, evs, retV, ↓reduceIte, Nat.reduceEqDiff, reduceCtorEq, t0, t1, t12, t13, decide_eq_true hx, wrap_id (show -9223372036854775808 ≤ (i : Int) + 1 by omega) (show (i : Int) + 1 < 9223372036854775808 by omega), toI_int]
        refine ⟨⟨hk.trans (Like.drew _), i + 1, rfl, by omega, ?_⟩, by omega⟩
        rw [List.take_add_one, List.take_add_one, he, List.getElem?_eq_getElem hlt, List.getElem?_eq_getElem hlt2, hx]
      · have : ¬ l1 = l2 := fun e => hx (by subst e; rfl)
        simp only [WS, List.getElem_cons_zero, List.getElem_cons_succ, Option.isNone_some, Option.isNone_none, List.getD_cons_zero, List.getD_cons_succ, I.at, atL, atO, atP, evp, evs, retV, ↓reduceIte, Nat.reduceEqDiff, reduceCtorEq, t0, t1, t12, t13, decide_eq_false hx, decide_eq_false this]
        exact hk.trans (Like.drew _)
    · rw [List.take_of_length_le (by omega), List.take_of_length_le (by omega)] at he
      simp only [WS, List.getElem_cons_zero, List.getElem_cons_succ, Option.isNone_some, Option.isNone_none, List.getD_cons_zero, List.getD_cons_succ, I.at, atL, atO, atP, evp, evs, retV, ↓reduceIte, Nat.reduceEqDiff, reduceCtorEq, t0, t1, t12, t13, g1.Xlen, show decide ((i : Int) < (l1.length : Int)) = false from decide_eq_false (by omega), decide_eq_true he]
      exact hk
  · have : ¬ l1 = l2 := fun e => hl (by rw [e])
    simp only [WS, List.getElem_cons_zero, List.getElem_cons_succ, Option.isNone_some, Option.isNone_none, List.getD_cons_zero, List.getD_cons_succ, I.at, atL, atO, atP, evp, evs, retV, ↓reduceIte, Nat.reduceEqDiff, reduceCtorEq, show decide ((l1.length : Int) = (l2.length : Int)) = false from decide_eq_false (by omega), decide_eq_false this]
    exact Like.refl w
end Go.Proofs.Ytikaanmmdemaiaa.Fw

namespace Go.Proofs.Ytikaanmmdemaiaa.Fw
open Go Go.Fw
set_option maxHeartbeats 4000000 in
theorem cullettop_WholeVanishes_spec (w : World) (i0 : Int) (j : El 16) :
    CallV Try.prog 4 [.int .i64 i0, .int .u16 (j.v.toNat : Int)] w fun v w' => v = .bool true ∧ RowKit.Below w.heap.size w w' := by
  have hj16 := j.v.isLt
  generalize hJ : j.v.toNat = J at hj16
  refine run_cullettop_WholeVanishes (by simp) ?_
  unfold c_cullettop_WholeVanishes
  rw [lZ41]
  refine WP_cut (fun t w' => w' = w ∧ t 0 = .int .i64 i0 ∧ t 1 = .int .u16 (J : Int)) (by simp only [WS, List.getElem_cons_zero, List.getElem_cons_succ, Option.isNone_some, Option.isNone_none, List.getD_cons_zero, List.getD_cons_succ, I.at, atL, atO, atP, evp, evs, retV, ↓reduceIte, Nat.reduceEqDiff, reduceCtorEq]) ?_
  rintro t w' ⟨rfl, t0, t1⟩
  rw [lZ1, lZ41]
  refine WP_cut (fun t w2 => w2 = w' ∧ t 1 = .int .u16 (J : Int) ∧ ∃ i : Nat, t 0 = .int .i64 (i : Int) ∧ i ≤ 9) ?_ ?_
  · by_cases h0 : i0 < 0
    · simp (maxSteps := 1000000) (disch := omega) only [WS, List.getElem_cons_zero, List.getElem_cons_succ, Option.isNone_some, Option.isNone_none, List.getD_cons_zero, List.getD_cons_succ, I.at, atL, atO, atP, evp, evs, retV, ↓reduceIte, Nat.reduceEqDiff, reduceCtorEq, AS, t0, t1]
      exact ⟨3, rfl, by omega⟩
    obtain ⟨i, rfl⟩ : ∃ m : Nat, i0 = (m : Int) := ⟨i0.toNat, by omega⟩
    by_cases h1 : 9 < i
    · simp (maxSteps := 1000000) (disch := omega) only [WS, List.getElem_cons_zero, List.getElem_cons_succ, Option.isNone_some, Option.isNone_none, List.getD_cons_zero, List.getD_cons_succ, I.at, atL, atO, atP, evp, evs, retV, ↓reduceIte, Nat.reduceEqDiff, reduceCtorEq, AS, t0, t1]
      exact ⟨3, rfl, by omega⟩
    · simp (maxSteps := 1000000) (disch := omega) only [WS, List.getElem_cons_zero, List.getElem_cons_succ, Option.isNone_some, Option.isNone_none, List.getD_cons_zero, List.getD_cons_succ, I.at, atL, atO, atP, evp, evs, retV, ↓reduceIte, Nat.reduceEqDiff, reduceCtorEq, AS, t0, t1]
      exact ⟨i, rfl, by omega⟩
  clear t0 t1
  rintro t w' ⟨rfl, t1, i, t0, hi⟩
  have e1 := shl_one i (by omega)
  have hi0 := Nat.two_pow_pos i
  have hi9 : 2 ^ i ≤ 512 := by have : 2 ^ i ≤ 2 ^ 9 := Nat.pow_le_pow_right (by omega) hi; omega
  have hnn : ((0 : Int) ≤ (i : Int)) = True := eq_true (by omega)
  simp (maxSteps := 1000000) (disch := omega) only [WS, List.getElem_cons_zero, List.getElem_cons_succ, Option.isNone_some, Option.isNone_none, List.getD_cons_zero, List.getD_cons_succ, I.at, atL, atO, atP, evp, evs, retV, ↓reduceIte, Nat.reduceEqDiff, reduceCtorEq, AS, t0, t1]
  refine X_call0 ((polys_Over16_spec w').mono ?_)
  rintro r w1 ⟨hr, hB, -⟩
  have B := hB
  clear hB
  simp (maxSteps := 1000000) (disch := omega) only [WS, List.getElem_cons_zero, List.getElem_cons_succ, Option.isNone_some, Option.isNone_none, List.getD_cons_zero, List.getD_cons_succ, I.at, atL, atO, atP, evp, evs, retV, ↓reduceIte, Nat.reduceEqDiff, reduceCtorEq, AS, t0, t1]
  refine loop_of (fun t w2 => t 0 = .int .i64 (i : Int) ∧ t 1 = .int .u16 (J : Int) ∧ t 5 = r ∧ RowKit.Below w'.heap.size w' w2 ∧ w1.heap.size ≤ w2.heap.size ∧ RowKit.Below w1.heap.size w1 w2 ∧ ∃ (u : Nat) (sx : Value), t 7 = .int .i64 (u : Int) ∧ u ≤ 2 ^ i ∧ t 6 = sx ∧ Ow w1.heap.size w2 sx ((List.range u).map wel)) (fun t _ => 2 ^ i - (toI (t 7)).toNat)
    ⟨by simp only [WS, List.getElem_cons_zero, List.getElem_cons_succ, Option.isNone_some, Option.isNone_none, List.getD_cons_zero, List.getD_cons_succ, I.at, atL, atO, atP, evp, evs, retV, ↓reduceIte, Nat.reduceEqDiff, reduceCtorEq]; exact t0, by simp only [WS, List.getElem_cons_zero, List.getElem_cons_succ, Option.isNone_some, Option.isNone_none, List.getD_cons_zero, List.getD_cons_succ, I.at, atL, atO, atP, evp, evs, retV, ↓reduceIte, Nat.reduceEqDiff, reduceCtorEq]; exact t1, by simp only [WS, List.getElem_cons_zero, List.getElem_cons_succ, Option.isNone_some, Option.isNone_none, List.getD_cons_zero, List.getD_cons_succ, I.at, atL, atO, atP, evp, evs, retV, ↓reduceIte, Nat.reduceEqDiff, reduceCtorEq], B, Nat.le_refl _, RowKit.Below.refl _ _, 0, _, rfl, by omega, rfl, Ow.nil _ _⟩ ?_
  have S1 := B.size
  clear B t0 t1
  rintro t w2 ⟨t0, t1, t5, B, Z, B1, u, sx, t7, hu, t6, ox⟩
  by_cases hui : u < 2 ^ i
  · simp (maxSteps := 1000000) (disch := omega) only [WS, List.getElem_cons_zero, List.getElem_cons_succ, Option.isNone_some, Option.isNone_none, List.getD_cons_zero, List.getD_cons_succ, I.at, atL, atO, atP, evp, evs, retV, ↓reduceIte, Nat.reduceEqDiff, reduceCtorEq, AS, t0, t1, t5, t6, t7, X_shl, hnn, e1]
    refine X_call0 ((gf16_Element_spec w2 (u : Int)).mono ?_)
    rintro _ w3 ⟨hB, ⟨-, -, rfl⟩ | ⟨hbad, -⟩⟩
    rotate_left
    · exact absurd ⟨by omega, by omega⟩ hbad
    rw [Int.toNat_natCast]
    have Z3 := Nat.le_trans Z hB.size
    have B13 := RowKit.Below.trans B1 (hB.mono Z)
    have ox := ox.up hB
    have B := B.trans (hB.mono B.size)
    clear hB
    simp (maxSteps := 1000000) (disch := omega) only [WS, List.getElem_cons_zero, List.getElem_cons_succ, Option.isNone_some, Option.isNone_none, List.getD_cons_zero, List.getD_cons_succ, I.at, atL, atO, atP, evp, evs, retV, ↓reduceIte, Nat.reduceEqDiff, reduceCtorEq, AS, t0, t1, t5, t6, t7]
    refine X_bsl (zs := [wel u]) (by rfl) (by rfl) fun se w4 oe hB => ?_
    have Z4 := Nat.le_trans Z3 hB.size
    have B14 := RowKit.Below.trans B13 (hB.mono Z3)
    have ox := ox.up hB
    have B := B.trans (hB.mono B.size)
    clear hB
    simp (maxSteps := 1000000) (disch := omega) only [WS, List.getElem_cons_zero, List.getElem_cons_succ, Option.isNone_some, Option.isNone_none, List.getD_cons_zero, List.getD_cons_succ, I.at, atL, atO, atP, evp, evs, retV, ↓reduceIte, Nat.reduceEqDiff, reduceCtorEq, AS, t0, t1, t5, t6, t7]
    refine ox.Xapp oe.sl Z4 (by simp only [List.length_singleton, List.length_map, List.length_range, maxBytes]; omega) (by simp; omega) fun sy w5 oy hg hn => ?_
    have hxb := fun b hb => (ox.blk b hb).1
    rw [show (List.range u).map wel ++ [wel u] = (List.range (u + 1)).map wel by rw [List.range_succ, List.map_append]; rfl] at oy
    simp (maxSteps := 1000000) (disch := omega) only [WS, List.getElem_cons_zero, List.getElem_cons_succ, Option.isNone_some, Option.isNone_none, List.getD_cons_zero, List.getD_cons_succ, I.at, atL, atO, atP, evp, evs, retV, ↓reduceIte, Nat.reduceEqDiff, reduceCtorEq, AS, t0, t1, t5, t6, t7]
    exact ⟨⟨B.grown hg B.size fun b hb => Nat.le_trans S1 (hxb b hb), Nat.le_trans Z4 hg.size, B14.grown hg Z4 hxb, u + 1, sy, rfl, by omega, rfl, oy⟩, by omega⟩
  obtain rfl : u = 2 ^ i := by omega
  have ox := ox.sl
  have hr := hr.up B1
  have lx : ((List.range (2 ^ i)).map wel).length = 2 ^ i := by simp
  have hvp := vps_wel i (by omega)
  generalize (List.range (2 ^ i)).map wel = xs at ox lx hvp
  simp (maxSteps := 1000000) (disch := omega) only [WS, List.getElem_cons_zero, List.getElem_cons_succ, Option.isNone_some, Option.isNone_none, List.getD_cons_zero, List.getD_cons_succ, I.at, atL, atO, atP, evp, evs, retV, ↓reduceIte, Nat.reduceEqDiff, reduceCtorEq, AS, t0, t1, t5, t6, t7, X_shl, hnn, e1]
  refine X_call0 ((polys_Ring_w_Vanishing_spec w2 r sx xs hr ox (by omega)).mono ?_)
  rintro _ w3 ⟨hB, ⟨-, sf, f, rfl, of, fl, cf⟩ | ⟨hbad, -⟩⟩
  rotate_left
  · omega
  have of := of.sl
  rw [lx] at fl
  rw [hvp] at cf
  clear hvp
  have hr := hr.up hB
  have B := B.trans (hB.mono B.size)
  clear hB
  simp (maxSteps := 1000000) (disch := omega) only [WS, List.getElem_cons_zero, List.getElem_cons_succ, Option.isNone_some, Option.isNone_none, List.getD_cons_zero, List.getD_cons_succ, I.at, atL, atO, atP, evp, evs, retV, ↓reduceIte, Nat.reduceEqDiff, reduceCtorEq, AS, t0, t1]
  refine X_call0 ((lch_Linear_spec w3 (i : Int)).mono ?_)
  rintro _ w4 ⟨hB, ⟨-, -, sc, m, rfl, om, ml, mc⟩ | ⟨hbad, -⟩⟩
  rotate_left
  · exact absurd ⟨by omega, by omega⟩ hbad
  rw [Int.toNat_natCast] at ml mc
  have om := om.sl
  have hr := hr.up hB
  have of := of.up hB
  have B := B.trans (hB.mono B.size)
  clear hB
  have d1 : (!decide (((2 ^ i + 1 : Nat) : Int) = ((2 ^ i + 1 : Nat) : Int))) = false := by rw [decide_eq_true rfl]; rfl
  have d2 : (!decide (((i + 1 : Nat) : Int) = ((i + 1 : Nat) : Int))) = false := by rw [decide_eq_true rfl]; rfl
  simp (maxSteps := 1000000) (disch := omega) only [WS, List.getElem_cons_zero, List.getElem_cons_succ, Option.isNone_some, Option.isNone_none, List.getD_cons_zero, List.getD_cons_succ, I.at, atL, atO, atP, evp, evs, retV, ↓reduceIte, Nat.reduceEqDiff, reduceCtorEq, AS, t0, t1, X_shl, hnn, e1, of.Xlen, fl, om.Xlen, ml, d1, d2]
  refine X_mks (x := (0 : El 16)) (by simp only [maxBytes]; omega) (by omega) fun sv w5 ov hB => ?_
  have hst : ∀ b, Fw.blk sc = some b → b < w4.heap.size := fun b hb => by
    obtain ⟨b2, hb2, hlt⟩ := om.blk_lt (by rintro rfl; simp at ml)
    rw [hb] at hb2; cases hb2; exact hlt
  have hsf : ∀ b, Fw.blk sf = some b → b < w4.heap.size := fun b hb => by
    obtain ⟨b2, hb2, hlt⟩ := of.blk_lt (by rintro rfl; simp at fl)
    rw [hb] at hb2; cases hb2; exact hlt
  have hvn : Fw.blk sv ≠ none := ov.bne (by simp)
  simp (maxSteps := 1000000) (disch := omega) only [WS, List.getElem_cons_zero, List.getElem_cons_succ, Option.isNone_some, Option.isNone_none, List.getD_cons_zero, List.getD_cons_succ, I.at, atL, atO, atP, evp, evs, retV, ↓reduceIte, Nat.reduceEqDiff, reduceCtorEq, AS, om.Xlen, ml]
  refine loop_of (fun t w5 => t 0 = .int .i64 (i : Int) ∧ t 1 = .int .u16 (J : Int) ∧ t 5 = r ∧ t 10 = sf ∧ t 14 = sv ∧ t 83 = sc ∧ t 84 = .int .i64 ((i + 1 : Nat) : Int) ∧ RowKit.Below w4.heap.size w4 w5 ∧ 
      ∃ (u : Nat) (ms : List (El 16)), t 85 = .int .i64 (u : Int) ∧ u ≤ i + 1 ∧ Ow w4.heap.size w5 sv ms ∧ ms.length = 2 ^ i + 1 ∧ ∀ n, (co ms).c n = if n ≠ 0 ∧ 2 ^ Nat.log2 n = n ∧ Nat.log2 n < u then lc i (Nat.log2 n) else 0) (fun t _ => i + 1 - (toI (t 85)).toNat)
    ⟨by simp only [WS, List.getElem_cons_zero, List.getElem_cons_succ, Option.isNone_some, Option.isNone_none, List.getD_cons_zero, List.getD_cons_succ, I.at, atL, atO, atP, evp, evs, retV, ↓reduceIte, Nat.reduceEqDiff, reduceCtorEq]; exact t0, by simp only [WS, List.getElem_cons_zero, List.getElem_cons_succ, Option.isNone_some, Option.isNone_none, List.getD_cons_zero, List.getD_cons_succ, I.at, atL, atO, atP, evp, evs, retV, ↓reduceIte, Nat.reduceEqDiff, reduceCtorEq]; exact t1, by simp only [WS, List.getElem_cons_zero, List.getElem_cons_succ, Option.isNone_some, Option.isNone_none, List.getD_cons_zero, List.getD_cons_succ, I.at, atL, atO, atP, evp, evs, retV, ↓reduceIte, Nat.reduceEqDiff, reduceCtorEq]; exact t5, by simp only [WS, List.getElem_cons_zero, List.getElem_cons_succ, Option.isNone_some, Option.isNone_none, List.getD_cons_zero, List.getD_cons_succ, I.at, atL, atO, atP, evp, evs, retV, ↓reduceIte, Nat.reduceEqDiff, reduceCtorEq], by simp only [WS, List.getElem_cons_zero, List.getElem_cons_succ, Option.isNone_some, Option.isNone_none, List.getD_cons_zero, List.getD_cons_succ, I.at, atL, atO, atP, evp, evs, retV, ↓reduceIte, Nat.reduceEqDiff, reduceCtorEq], by simp only [WS, List.getElem_cons_zero, List.getElem_cons_succ, Option.isNone_some, Option.isNone_none, List.getD_cons_zero, List.getD_cons_succ, I.at, atL, atO, atP, evp, evs, retV, ↓reduceIte, Nat.reduceEqDiff, reduceCtorEq], by simp only [WS, List.getElem_cons_zero, List.getElem_cons_succ, Option.isNone_some, Option.isNone_none, List.getD_cons_zero, List.getD_cons_succ, I.at, atL, atO, atP, evp, evs, retV, ↓reduceIte, Nat.reduceEqDiff, reduceCtorEq], hB, 0, _, rfl, by omega, ov, List.length_replicate .., fun n => by rw [co_replicate, if_neg (by omega)]; rfl⟩ ?_
  clear ov hvn hsf hst
  clear t0 t1 hB
  rintro t w5 ⟨t0, t1, t5, t10, t14, t83, t84, hB, u, ms, t85, hu, ov, msl, msc⟩
  have om5 := om.up hB
  by_cases hui : u < i + 1
  · have um : u < m.length := by omega
    have e2 := shl_one u (by omega)
    have hui2 : 2 ^ u ≤ 2 ^ i := Nat.pow_le_pow_right (by omega) (by omega)
    have ums : 2 ^ u < ms.length := by omega
    have hnu : ((0 : Int) ≤ (u : Int)) = True := eq_true (by omega)
    simp (maxSteps := 1000000) (disch := omega) only [WS, List.getElem_cons_zero, List.getElem_cons_succ, Option.isNone_some, Option.isNone_none, List.getD_cons_zero, List.getD_cons_succ, I.at, atL, atO, atP, evp, evs, retV, ↓reduceIte, Nat.reduceEqDiff, reduceCtorEq, AS, t0, t1, t5, t10, t14, t83, t84, t85, om5.Xix um, om5.Xld um, X_shl, hnu, e2, ov.sl.Xix ums]
    refine ov.Xst ums m[u] fun w8 ov8 hg => ?_
    simp (maxSteps := 1000000) (disch := omega) only [WS, List.getElem_cons_zero, List.getElem_cons_succ, Option.isNone_some, Option.isNone_none, List.getD_cons_zero, List.getD_cons_succ, I.at, atL, atO, atP, evp, evs, retV, ↓reduceIte, Nat.reduceEqDiff, reduceCtorEq, AS, t0, t1, t5, t10, t14, t83, t84, t85]
    refine ⟨⟨hB.grown hg hB.size fun b hb => (ov.blk b hb).1, u + 1, _, rfl, by omega, ov8, by simp [msl], fun n => ?_⟩, by omega⟩
    rw [co_set _ ums, msc n]
    by_cases hn : n = 2 ^ u
    · subst hn
      rw [if_pos rfl, Nat.log2_two_pow, if_pos ⟨by have := Nat.two_pow_pos u; omega, rfl, by omega⟩, ← co_get m um, mc]
    · rw [if_neg hn]
      by_cases hc : n ≠ 0 ∧ 2 ^ Nat.log2 n = n ∧ Nat.log2 n < u
      · rw [if_pos hc, if_pos ⟨hc.1, hc.2.1, by omega⟩]
      · rw [if_neg hc, if_neg]
        rintro ⟨c1, c2, c3⟩
        have : Nat.log2 n ≠ u := fun e => hn (by rw [← e, c2])
        exact hc ⟨c1, c2, by omega⟩
  obtain rfl : u = i + 1 := by omega
  have hms := sP_list msc
  have ovs := ov.sl
  have hr := hr.up hB
  have of := of.up hB
  have B := B.trans (hB.mono B.size)
  clear hB
  have hfm : f = ms := co_ext (fl.trans msl.symm) (cf.trans hms.symm)
  have e3 := shr_nat .i64 J i (by show i ≤ 64; omega)
  have hsh : J >>> i < 65536 := by rw [Nat.shiftRight_eq_div_pow]; exact Nat.lt_of_le_of_lt (Nat.div_le_self _ _) hj16
  simp (maxSteps := 1000000) (disch := omega) only [WS, List.getElem_cons_zero, List.getElem_cons_succ, Option.isNone_some, Option.isNone_none, List.getD_cons_zero, List.getD_cons_succ, I.at, atL, atO, atP, evp, evs, retV, ↓reduceIte, Nat.reduceEqDiff, reduceCtorEq, AS, t0, t1, t5, t10, t14, t83, t84, t85]
  refine X_call0 ((cullettop_words_spec w5 sf sv f ms of ovs (by omega) (by omega)).mono ?_)
  rintro _ w6 ⟨rfl, hk⟩
  have hB := hk.1
  have hr := hr.up hB
  have of := of.up hB
  have B := B.trans (hB.mono B.size)
  clear hB
  clear hk
  rw [decide_eq_true hfm]
  simp (maxSteps := 1000000) (disch := omega) only [WS, List.getElem_cons_zero, List.getElem_cons_succ, Option.isNone_some, Option.isNone_none, List.getD_cons_zero, List.getD_cons_succ, I.at, atL, atO, atP, evp, evs, retV, ↓reduceIte, Nat.reduceEqDiff, reduceCtorEq, AS, t0, t1, t5, t10, w_nat]
  refine X_call0 ((gf16_Element_spec w6 (J : Int)).mono ?_)
  rintro _ w7 ⟨hB, ⟨-, -, rfl⟩ | ⟨hbad, -⟩⟩
  rotate_left
  · exact absurd ⟨by omega, by omega⟩ hbad
  rw [Int.toNat_natCast]
  have hr := hr.up hB
  have of := of.up hB
  have B := B.trans (hB.mono B.size)
  clear hB
  simp (maxSteps := 1000000) (disch := omega) only [WS, List.getElem_cons_zero, List.getElem_cons_succ, Option.isNone_some, Option.isNone_none, List.getD_cons_zero, List.getD_cons_succ, I.at, atL, atO, atP, evp, evs, retV, ↓reduceIte, Nat.reduceEqDiff, reduceCtorEq, AS, t0, t1, t5, t10, w_nat, X_shr, hnn, e3]
  refine X_call0 ((gf16_Element_spec w7 ((J >>> i : Nat) : Int)).mono ?_)
  rintro _ w8 ⟨hB, ⟨-, -, rfl⟩ | ⟨hbad, -⟩⟩
  rotate_left
  · exact absurd ⟨Int.natCast_nonneg _, Int.ofNat_lt.2 hsh⟩ hbad
  rw [Int.toNat_natCast]
  have hr := hr.up hB
  have of := of.up hB
  have B := B.trans (hB.mono B.size)
  clear hB
  simp (maxSteps := 1000000) (disch := omega) only [WS, List.getElem_cons_zero, List.getElem_cons_succ, Option.isNone_some, Option.isNone_none, List.getD_cons_zero, List.getD_cons_succ, I.at, atL, atO, atP, evp, evs, retV, ↓reduceIte, Nat.reduceEqDiff, reduceCtorEq, AS, t0, t1, t5, t10, w_nat]
  refine X_call0 ((lch_Vanish_spec w8 (i : Int) (wel J)).mono ?_)
  rintro _ w8 ⟨rfl, ⟨-, -, rfl⟩ | ⟨hbad, -⟩⟩
  rotate_left
  · exact absurd ⟨by omega, by omega⟩ hbad
  rw [Int.toNat_natCast, sV_wel i J hj16]
  simp (maxSteps := 1000000) (disch := omega) only [WS, List.getElem_cons_zero, List.getElem_cons_succ, Option.isNone_some, Option.isNone_none, List.getD_cons_zero, List.getD_cons_succ, I.at, atL, atO, atP, evp, evs, retV, ↓reduceIte, Nat.reduceEqDiff, reduceCtorEq, AS, t0, t1, t5, t10, w_nat]
  refine X_call0 ((lch_Skew_spec w8 (i : Int) (J : Int)).mono ?_)
  rintro _ w9 ⟨hB, ⟨-, -, -, -, rfl⟩ | ⟨hbad, -⟩ | ⟨-, -, hbad, -⟩⟩
  rotate_left
  · exact absurd ⟨by omega, by omega⟩ hbad
  · exact absurd ⟨by omega, by omega⟩ hbad
  rw [Int.toNat_natCast, Int.toNat_natCast]
  have hr := hr.up hB
  have of := of.up hB
  have B := B.trans (hB.mono B.size)
  clear hB
  simp (maxSteps := 1000000) (disch := omega) only [WS, List.getElem_cons_zero, List.getElem_cons_succ, Option.isNone_some, Option.isNone_none, List.getD_cons_zero, List.getD_cons_succ, I.at, atL, atO, atP, evp, evs, retV, ↓reduceIte, Nat.reduceEqDiff, reduceCtorEq, AS, t0, t1, t5, t10]
  refine X_call0 ((polys_Ring_w_Eval_spec w9 r sf f (wel J) hr of (by omega)).mono ?_)
  rintro _ w10 ⟨rfl, hB⟩
  have B := B.trans (hB.mono B.size)
  clear hB
  have hev : evl f (wel J) = wel (J >>> i) := by
    rw [evl_co, cf, fl, sP_ev _ i _ (Nat.le_refl _), sV_wel i J hj16]
  rw [hev]
  simp (maxSteps := 1000000) (disch := omega) only [WS, List.getElem_cons_zero, List.getElem_cons_succ, Option.isNone_some, Option.isNone_none, List.getD_cons_zero, List.getD_cons_succ, I.at, atL, atO, atP, evp, evs, retV, ↓reduceIte, Nat.reduceEqDiff, reduceCtorEq, AS, show decide (((wel (J >>> i)).v.toNat : Int) = ((wel (J >>> i)).v.toNat : Int)) = true from decide_eq_true rfl]
  exact B
end Go.Proofs.Ytikaanmmdemaiaa.Fw
