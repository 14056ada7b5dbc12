import Derived.Test.YtpmfeaajpjjfiaaProg
import Derived.Test.YtpmfeaajpjjfiaaFwTP
import Derived.Test.YtpmfeaajpjjfiaaSS14jP
import Derived.Test.YtpmfeaajpjjfiaaSS14gP
import Derived.Test.YtpmfeaajpjjfiaaGfPP
set_option linter.all false
set_option linter.unusedVariables false
set_option linter.unusedSimpArgs false
set_option maxRecDepth 100000
set_option maxHeartbeats 1000000
namespace Go.Proofs.Ytpmfeaajpjjfiaa.Fw
open Go Go.Fw Go.Proofs
attribute [local irreducible] stepI
def c_culletlaw14_awake : C := .seq (.ops [⟨0, (some 0), none, .mov (.c (.bool false)), []⟩]) (.seq (.ops [⟨0, (some 10), none, .bsl 31 2 [.int .u16 0] [(0, (1, .c (.int .u16 7))), (1, (1, .c (.int .u16 1)))], []⟩, ⟨1, (some 11), none, .call (.c (.func (.func 18) #[] #[])) [.t 10, .c (.int .i64 0)], []⟩, ⟨2, (some 9), none, .mov (.t 11), []⟩, ⟨3, (some 12), none, .ext (.t 9) 0, []⟩, ⟨4, (some 13), none, .ext (.t 9) 1, []⟩, ⟨5, (some 1), none, .mov (.t 12), []⟩, ⟨6, (some 2), none, .mov (.t 13), []⟩]) (.seq (.ops [⟨0, (some 15), none, .bsl 31 2 [.int .u16 0] [(0, (1, .c (.int .u16 7))), (1, (1, .c (.int .u16 6)))], []⟩, ⟨1, (some 16), none, .call (.c (.func (.func 17) #[] #[])) [.t 15, .c (.int .i64 0)], []⟩, ⟨2, (some 14), none, .mov (.t 16), []⟩, ⟨3, (some 17), none, .ext (.t 14) 0, []⟩, ⟨4, (some 18), none, .ext (.t 14) 1, []⟩, ⟨5, (some 3), none, .mov (.t 17), []⟩, ⟨6, (some 4), none, .mov (.t 18), []⟩]) (.seq (.ops [⟨0, (some 20), none, .bsl 31 4 [.int .u16 0] [(0, (1, .c (.int .u16 5))), (1, (1, .c (.int .u16 5))), (2, (1, .c (.int .u16 3))), (3, (1, .c (.int .u16 3)))], []⟩, ⟨1, (some 21), none, .call (.c (.func (.func 22) #[] #[])) [.t 20, .c (.int .i64 2), .c (.int .i64 2)], []⟩, ⟨2, (some 19), none, .mov (.t 21), []⟩, ⟨3, (some 22), none, .ext (.t 19) 0, []⟩, ⟨4, (some 23), none, .ext (.t 19) 1, []⟩, ⟨5, (some 5), none, .mov (.t 22), []⟩, ⟨6, (some 6), none, .mov (.t 23), []⟩]) (.seq (.ops [⟨0, (some 24), none, .bsl 31 2 [.int .u16 0] [(0, (1, .c (.int .u16 7))), (1, (1, .c (.int .u16 5)))], []⟩, ⟨1, (some 25), none, .bsl 31 2 [.int .u16 0] [(0, (1, .c (.int .u16 1))), (1, (1, .c (.int .u16 0)))], []⟩, ⟨2, (some 26), none, .bsl 23 2 [.slice none 0 0] [(0, (1, .t 24)), (1, (1, .t 25))], []⟩, ⟨3, (some 7), none, .mov (.t 26), []⟩]) (.seq (.ops [⟨0, (some 27), none, .mov (.t 7), []⟩, ⟨1, (some 28), none, .call (.c (.func (.func 24) #[] #[])) [.t 27, .c (.int .i64 0)], []⟩, ⟨2, (some 8), none, .mov (.t 28), []⟩]) (.seq (.seq (.ops [⟨0, (some 29), none, .mov (.t 2), []⟩, ⟨1, (some 30), none, .bin .neq (.t 29) (.c (.int .i64 0)), []⟩, ⟨2, (some 31), none, .mov (.t 30), []⟩, ⟨3, (some 32), (some (31, false)), .mov (.t 4), []⟩, ⟨4, (some 33), (some (31, false)), .bin .neq (.t 32) (.c (.int .i64 0)), []⟩, ⟨5, (some 34), none, .pick (.t 31) (.c (.bool true)) (.t 33), []⟩, ⟨6, (some 35), none, .mov (.t 34), []⟩, ⟨7, (some 36), (some (35, false)), .mov (.t 6), []⟩, ⟨8, (some 37), (some (35, false)), .bin .neq (.t 36) (.c (.int .i64 0)), []⟩, ⟨9, (some 38), none, .pick (.t 35) (.c (.bool true)) (.t 37), []⟩, ⟨10, (some 39), none, .mov (.t 38), []⟩, ⟨11, (some 40), (some (39, false)), .mov (.t 8), []⟩, ⟨12, (some 41), (some (39, false)), .bin .neq (.t 40) (.c (.int .i64 0)), []⟩, ⟨13, (some 42), none, .pick (.t 39) (.c (.bool true)) (.t 41), []⟩]) (.ite (.t 42) (.seq (.ops [⟨0, (some 0), none, .mov (.c (.bool false)), []⟩]) .ret) .skip)) (.seq (.ops [⟨0, (some 43), none, .mov (.t 1), []⟩, ⟨1, (some 44), none, .bsl 31 2 [.int .u16 0] [(0, (1, .c (.int .u16 7))), (1, (1, .c (.int .u16 6)))], []⟩, ⟨2, (some 45), none, .call (.c (.func (.func 19) #[] #[])) [.t 43, .t 44], []⟩, ⟨3, (some 46), none, .mov (.t 45), []⟩, ⟨4, (some 47), (some (46, true)), .mov (.t 3), []⟩, ⟨5, (some 48), (some (46, true)), .bsl 31 2 [.int .u16 0] [(0, (1, .c (.int .u16 7))), (1, (1, .c (.int .u16 1)))], []⟩, ⟨6, (some 49), (some (46, true)), .call (.c (.func (.func 19) #[] #[])) [.t 47, .t 48], []⟩, ⟨7, (some 50), none, .pick (.t 46) (.t 49) (.c (.bool false)), []⟩, ⟨8, (some 51), none, .mov (.t 50), []⟩, ⟨9, (some 52), (some (51, true)), .mov (.t 5), []⟩, ⟨10, (some 53), (some (51, true)), .bsl 31 2 [.int .u16 0] [(0, (1, .c (.int .u16 6))), (1, (1, .c (.int .u16 0)))], []⟩, ⟨11, (some 54), (some (51, true)), .call (.c (.func (.func 19) #[] #[])) [.t 52, .t 53], []⟩, ⟨12, (some 55), none, .pick (.t 51) (.t 54) (.c (.bool false)), []⟩, ⟨13, (some 56), none, .mov (.t 55), []⟩, ⟨14, (some 57), (some (56, true)), .mov (.t 7), []⟩, ⟨15, (some 58), (some (56, true)), .len (.t 57), []⟩, ⟨16, (some 59), (some (56, true)), .bin .eql (.t 58) (.c (.int .i64 2)), []⟩, ⟨17, (some 60), none, .pick (.t 56) (.t 59) (.c (.bool false)), []⟩, ⟨18, (some 61), none, .mov (.t 60), []⟩, ⟨19, (some 62), (some (61, true)), .mov (.t 7), []⟩, ⟨20, (some 63), (some (61, true)), .ixs 1 (.t 62) (.c (.int .i64 0)), []⟩, ⟨21, (some 64), (some (61, true)), .ld (.t 63), []⟩, ⟨22, (some 65), (some (61, true)), .bsl 31 2 [.int .u16 0] [(0, (1, .c (.int .u16 7))), (1, (1, .c (.int .u16 5)))], []⟩, ⟨23, (some 66), (some (61, true)), .call (.c (.func (.func 19) #[] #[])) [.t 64, .t 65], []⟩, ⟨24, (some 67), none, .pick (.t 61) (.t 66) (.c (.bool false)), []⟩, ⟨25, (some 68), none, .mov (.t 67), []⟩, ⟨26, (some 69), (some (68, true)), .mov (.t 7), []⟩, ⟨27, (some 70), (some (68, true)), .ixs 1 (.t 69) (.c (.int .i64 1)), []⟩, ⟨28, (some 71), (some (68, true)), .ld (.t 70), []⟩, ⟨29, (some 72), (some (68, true)), .bsl 31 2 [.int .u16 0] [(0, (1, .c (.int .u16 6))), (1, (1, .c (.int .u16 5)))], []⟩, ⟨30, (some 73), (some (68, true)), .call (.c (.func (.func 19) #[] #[])) [.t 71, .t 72], []⟩, ⟨31, (some 74), none, .pick (.t 68) (.t 73) (.c (.bool false)), []⟩, ⟨32, (some 0), none, .mov (.t 74), []⟩]) .ret)))))))
attribute [irreducible] c_culletlaw14_awake
theorem run_culletlaw14_awake {args : List Value} {w : World} {K : Value → World → Prop} (hn : args.length ≤ 75) (h : WP Try.prog c_culletlaw14_awake (endQ [.t 0] K) (initT args) w) : CallV Try.prog 14 args w K :=
  call_of follows Try.func14 (by kernel_rfl) (by kernel_rfl) hn h
def c_culletlaw14_cut : C := .seq (.ops [⟨0, (some 4), none, .mov (.c (.slice none 0 0)), []⟩]) (.seq (.ops [⟨0, (some 5), none, .mov (.c (.int .i64 1)), []⟩]) (.seq (.block 0 (.loop (.seq (.seq (.ops [⟨0, (some 6), none, .mov (.t 5), []⟩, ⟨1, (some 7), none, .bin .mul (.c (.int .i64 2)) (.t 6), []⟩, ⟨2, (some 8), none, .mov (.t 0), []⟩, ⟨3, (some 9), none, .len (.t 8), []⟩, ⟨4, (some 10), none, .bin .leq (.t 7) (.t 9), []⟩, ⟨5, (some 11), none, .mov (.t 10), []⟩, ⟨6, (some 12), (some (11, true)), .mov (.t 5), []⟩, ⟨7, (some 13), (some (11, true)), .bin .mul (.c (.int .i64 2)) (.t 12), []⟩, ⟨8, (some 14), (some (11, true)), .mov (.t 1), []⟩, ⟨9, (some 15), (some (11, true)), .bin .leq (.t 13) (.t 14), []⟩, ⟨10, (some 16), none, .pick (.t 11) (.t 15) (.c (.bool false)), []⟩]) (.ite (.t 16) .skip (.exit 0))) (.block 1 (.ops [⟨0, (some 17), none, .mov (.t 5), []⟩, ⟨1, (some 18), none, .bin .mul (.c (.int .i64 2)) (.t 17), []⟩, ⟨2, (some 5), none, .mov (.t 18), []⟩]))))) (.seq (.seq (.ops [⟨0, (some 19), none, .mov (.t 0), []⟩, ⟨1, (some 20), none, .len (.t 19), []⟩, ⟨2, (some 21), none, .bin .eql (.t 20) (.c (.int .i64 0)), []⟩]) (.ite (.t 21) (.seq (.ops [⟨0, (some 22), none, .mov (.t 0), []⟩, ⟨1, (some 4), none, .mov (.t 22), []⟩]) .ret) .skip)) (.seq (.ops [⟨0, (some 23), none, .mov (.t 0), []⟩, ⟨1, (some 24), none, .mov (.t 5), []⟩, ⟨2, (some 25), none, .slc 1 (.t 23) none (some (.t 24)) none, []⟩, ⟨3, (some 4), none, .mov (.t 25), []⟩]) .ret))))
attribute [irreducible] c_culletlaw14_cut
theorem run_culletlaw14_cut {args : List Value} {w : World} {K : Value → World → Prop} (hn : args.length ≤ 26) (h : WP Try.prog c_culletlaw14_cut (endQ [.t 4] K) (initT args) w) : CallV Try.prog 15 args w K :=
  call_of follows Try.func15 (by kernel_rfl) (by kernel_rfl) hn h
def c_culletlaw14_begin : C := .seq (.ops [⟨0, (some 4), none, .mov (.c (.int .i64 0)), []⟩]) (.seq (.ops [⟨0, (some 6), none, .mov (.t 1), []⟩, ⟨1, (some 7), none, .bin .quo (.c (.int .i64 65536)) (.t 6), []⟩, ⟨2, (some 5), none, .mov (.t 7), []⟩]) (.seq (.ops [⟨0, (some 8), none, .mov (.t 0), []⟩, ⟨1, (some 9), none, .mov (.t 5), []⟩, ⟨2, (some 10), none, .bin .rem (.t 8) (.t 9), []⟩, ⟨3, (some 11), none, .mov (.t 5), []⟩, ⟨4, (some 12), none, .bin .add (.t 10) (.t 11), []⟩, ⟨5, (some 13), none, .mov (.t 5), []⟩, ⟨6, (some 14), none, .bin .rem (.t 12) (.t 13), []⟩, ⟨7, (some 15), none, .mov (.t 1), []⟩, ⟨8, (some 16), none, .bin .mul (.t 14) (.t 15), []⟩, ⟨9, (some 4), none, .mov (.t 16), []⟩]) .ret))
attribute [irreducible] c_culletlaw14_begin
theorem run_culletlaw14_begin {args : List Value} {w : World} {K : Value → World → Prop} (hn : args.length ≤ 17) (h : WP Try.prog c_culletlaw14_begin (endQ [.t 4] K) (initT args) w) : CallV Try.prog 16 args w K :=
  call_of follows Try.func16 (by kernel_rfl) (by kernel_rfl) hn h
def c_culletlaw14_alike : C := .seq (.ops [⟨0, (some 4), none, .mov (.c (.bool false)), []⟩]) (.seq (.seq (.ops [⟨0, (some 6), none, .mov (.t 0), []⟩, ⟨1, (some 7), none, .len (.t 6), []⟩, ⟨2, (some 8), none, .mov (.t 1), []⟩, ⟨3, (some 9), none, .len (.t 8), []⟩, ⟨4, (some 10), none, .bin .neq (.t 7) (.t 9), []⟩]) (.ite (.t 10) (.seq (.ops [⟨0, (some 4), none, .mov (.c (.bool false)), []⟩]) .ret) .skip)) (.seq (.seq (.ops [⟨0, (some 5), none, .mov (.c (.int .i64 0)), []⟩]) (.block 0 (.loop (.seq (.seq (.ops [⟨0, (some 11), none, .mov (.t 5), []⟩, ⟨1, (some 12), none, .mov (.t 0), []⟩, ⟨2, (some 13), none, .len (.t 12), []⟩, ⟨3, (some 14), none, .bin .lss (.t 11) (.t 13), []⟩]) (.ite (.t 14) .skip (.exit 0))) (.seq (.block 1 (.seq (.dops [⟨0, (some 17), none, .mov (.t 0), []⟩, ⟨1, (some 18), none, .mov (.t 5), []⟩, ⟨2, (some 19), none, .ixs 1 (.t 17) (.t 18), []⟩, ⟨3, (some 20), none, .ld (.t 19), []⟩, ⟨4, (some 21), none, .mov (.t 1), []⟩, ⟨5, (some 22), none, .mov (.t 5), []⟩, ⟨6, (some 23), none, .ixs 1 (.t 21) (.t 22), []⟩, ⟨7, (some 24), none, .ld (.t 23), []⟩, ⟨8, (some 25), none, .bin .neq (.t 20) (.t 24), []⟩]) (.ite (.t 25) (.seq (.ops [⟨0, (some 4), none, .mov (.c (.bool false)), []⟩]) .ret) .skip))) (.ops [⟨0, (some 15), none, .mov (.t 5), []⟩, ⟨1, (some 16), none, .bin .add (.t 15) (.c (.int .i64 1)), []⟩, ⟨2, (some 5), none, .mov (.t 16), []⟩])))))) (.seq (.ops [⟨0, (some 4), none, .mov (.c (.bool true)), []⟩]) .ret)))
attribute [irreducible] c_culletlaw14_alike
theorem run_culletlaw14_alike {args : List Value} {w : World} {K : Value → World → Prop} (hn : args.length ≤ 26) (h : WP Try.prog c_culletlaw14_alike (endQ [.t 4] K) (initT args) w) : CallV Try.prog 19 args w K :=
  call_of follows Try.func19 (by kernel_rfl) (by kernel_rfl) hn h
end Go.Proofs.Ytpmfeaajpjjfiaa.Fw
namespace Go.Proofs.Ytpmfeaajpjjfiaa.Fw
open Go Go.Fw
theorem culletlaw14_alike_spec (w : World) (s1 s2 : Value) (l1 l2 : List (El 16)) (h1 : Sl w s1 l1) (h2 : Sl w s2 l2) (hb : l1.length ≤ 140737488355328) (hb2 : l2.length ≤ 140737488355328) :
    CallV Try.prog 19 [s1, s2] w fun v w' => v = .bool (decide (l1 = l2)) ∧ Like w w' := by
  refine run_culletlaw14_alike (by simp) ?_
  simp only [c_culletlaw14_alike, WS, List.getElem_cons_zero, List.getElem_cons_succ, Option.isNone_some, Option.isNone_none, List.getD_cons_zero, List.getD_cons_succ, I.at, atL, atO, atP, evp, evs, retV, ↓reduceIte, Nat.reduceEqDiff, reduceCtorEq, h1.Xlen, h2.Xlen]
  by_cases hl : l1.length = l2.length
  · simp only [WS, List.getElem_cons_zero, List.getElem_cons_succ, Option.isNone_some, Option.isNone_none, List.getD_cons_zero, List.getD_cons_succ, I.at, atL, atO, atP, evp, evs, retV, ↓reduceIte, Nat.reduceEqDiff, reduceCtorEq, show decide ((l1.length : Int) = (l2.length : Int)) = true from decide_eq_true (by omega)]
    refine loop_of (fun t w' => Like w w' ∧ t 0 = s1 ∧ t 1 = s2 ∧ ∃ i : Nat, t 5 = .int .i64 (i : Int) ∧ i ≤ l1.length ∧ l1.take i = l2.take i) (fun t _ => l1.length - (toI (t 5)).toNat) ⟨Like.refl w, rfl, rfl, 0, rfl, by omega, by simp⟩ ?_
    rintro t w' ⟨hk, t0, t1, i, t5, hi, he⟩
    have g1 := hk.sl h1
    have g2 := hk.sl h2
    by_cases hlt : i < l1.length
    · have hlt2 : i < l2.length := by omega
      simp only [WS, List.getElem_cons_zero, List.getElem_cons_succ, Option.isNone_some, Option.isNone_none, List.getD_cons_zero, List.getD_cons_succ, I.at, atL, atO, atP, evp, evs, retV, ↓reduceIte, Nat.reduceEqDiff, reduceCtorEq, t0, t1, t5, g1.Xlen, show decide ((i : Int) < (l1.length : Int)) = true from decide_eq_true (by omega)]
      refine WP_dops ?_
      simp only [ES, List.mem_cons, List.not_mem_nil, implies_true, forall_const, WS, List.getElem_cons_zero, List.getElem_cons_succ, Option.isNone_some, Option.isNone_none, List.getD_cons_zero, List.getD_cons_succ, I.at, atL, atO, atP, evp, evs, retV, ↓reduceIte, Nat.reduceEqDiff, reduceCtorEq, t0, t1, t5, g1.drew.Eix hlt, g1.drew.Eld hlt, g2.drew.Eix hlt2, g2.drew.Eld hlt2, cell_e16, el_eq]
      by_cases hx : l1[i] = l2[i]
      · simp only [WS, List.getElem_cons_zero, List.getElem_cons_succ, Option.isNone_some, Option.isNone_none, List.getD_cons_zero, List.getD_cons_succ, I.at, atL, atO, atP, evp, evs, retV, ↓reduceIte, Nat.reduceEqDiff, reduceCtorEq, t0, t1, t5, decide_eq_true hx, wrap_id (show -9223372036854775808 ≤ (i : Int) + 1 by omega) (show (i : Int) + 1 < 9223372036854775808 by omega), toI_int]
        refine ⟨⟨hk.trans (Like.drew _), i + 1, rfl, by omega, ?_⟩, by omega⟩
        rw [List.take_add_one, List.take_add_one, he, List.getElem?_eq_getElem hlt, List.getElem?_eq_getElem hlt2, hx]
      · have : ¬ l1 = l2 := fun e => hx (by subst e; rfl)
        simp only [WS, List.getElem_cons_zero, List.getElem_cons_succ, Option.isNone_some, Option.isNone_none, List.getD_cons_zero, List.getD_cons_succ, I.at, atL, atO, atP, evp, evs, retV, ↓reduceIte, Nat.reduceEqDiff, reduceCtorEq, t0, t1, t5, decide_eq_false hx, decide_eq_false this]
        exact hk.trans (Like.drew _)
    · rw [List.take_of_length_le (by omega), List.take_of_length_le (by omega)] at he
      simp only [WS, List.getElem_cons_zero, List.getElem_cons_succ, Option.isNone_some, Option.isNone_none, List.getD_cons_zero, List.getD_cons_succ, I.at, atL, atO, atP, evp, evs, retV, ↓reduceIte, Nat.reduceEqDiff, reduceCtorEq, t0, t1, t5, g1.Xlen, show decide ((i : Int) < (l1.length : Int)) = false from decide_eq_false (by omega), decide_eq_true he]
      exact hk
  · have : ¬ l1 = l2 := fun e => hl (by rw [e])
    simp only [WS, List.getElem_cons_zero, List.getElem_cons_succ, Option.isNone_some, Option.isNone_none, List.getD_cons_zero, List.getD_cons_succ, I.at, atL, atO, atP, evp, evs, retV, ↓reduceIte, Nat.reduceEqDiff, reduceCtorEq, show decide ((l1.length : Int) = (l2.length : Int)) = false from decide_eq_false (by omega), decide_eq_false this]
    exact Like.refl w
end Go.Proofs.Ytpmfeaajpjjfiaa.Fw

namespace Go.Proofs.Ytpmfeaajpjjfiaa.Fw
open Go Go.Fw
theorem culletlaw14_cut_spec (w : World) (s : Value) (l : List (El 16)) (m : Nat) (h : Sl w s l) (hm : 1 ≤ m) (hm2 : m ≤ 65536) :
    CallV Try.prog 15 [s, .int .i64 (m : Int)] w fun v w' => w' = w ∧ ((l.length = 0 ∧ v = s) ∨ ∃ k, k ≤ 16 ∧ 2 ^ k ≤ l.length ∧ 2 ^ k ≤ m ∧ v = Fw.sub s 0 (2 ^ k)) := by
  refine run_culletlaw14_cut (by simp) ?_
  simp only [c_culletlaw14_cut, WS, List.getElem_cons_zero, List.getElem_cons_succ, Option.isNone_some, Option.isNone_none, List.getD_cons_zero, List.getD_cons_succ, I.at, atL, atO, atP, evp, evs, retV, ↓reduceIte, Nat.reduceEqDiff, reduceCtorEq]
  refine loop_of (fun t w' => w' = w ∧ t 0 = s ∧ t 1 = .int .i64 (m : Int) ∧ ∃ k : Nat, t 5 = .int .i64 ((2 ^ k : Nat) : Int) ∧ k ≤ 16 ∧ (l.length = 0 ∨ 2 ^ k ≤ l.length) ∧ 2 ^ k ≤ m) (fun t _ => m - (toI (t 5)).toNat) ⟨rfl, by simp only [WS, List.getElem_cons_zero, List.getElem_cons_succ, Option.isNone_some, Option.isNone_none, List.getD_cons_zero, List.getD_cons_succ, I.at, atL, atO, atP, evp, evs, retV, ↓reduceIte, Nat.reduceEqDiff, reduceCtorEq], by simp only [WS, List.getElem_cons_zero, List.getElem_cons_succ, Option.isNone_some, Option.isNone_none, List.getD_cons_zero, List.getD_cons_succ, I.at, atL, atO, atP, evp, evs, retV, ↓reduceIte, Nat.reduceEqDiff, reduceCtorEq], 0, by simp only [WS, List.getElem_cons_zero, List.getElem_cons_succ, Option.isNone_some, Option.isNone_none, List.getD_cons_zero, List.getD_cons_succ, I.at, atL, atO, atP, evp, evs, retV, ↓reduceIte, Nat.reduceEqDiff, reduceCtorEq]; rfl, by omega, by rw [Nat.pow_zero]; omega, by simpa using hm⟩ ?_
  rintro t w' ⟨rfl, t0, t1, k, t5, hk, hl, hkm⟩
  have hp := Nat.two_pow_pos k
  have hp16 : 2 ^ k ≤ 65536 := by have : 2 ^ k ≤ 2 ^ 16 := Nat.pow_le_pow_right (by omega) hk; omega
  have hp2 : 2 ^ (k + 1) = 2 * 2 ^ k := by rw [Nat.pow_succ, Nat.mul_comm]
  by_cases h1 : 2 * 2 ^ k ≤ l.length
  · by_cases h2 : 2 * 2 ^ k ≤ m
    · simp (maxSteps := 1000000) (disch := omega) only [WS, List.getElem_cons_zero, List.getElem_cons_succ, Option.isNone_some, Option.isNone_none, List.getD_cons_zero, List.getD_cons_succ, I.at, atL, atO, atP, evp, evs, retV, ↓reduceIte, Nat.reduceEqDiff, reduceCtorEq, AS, t0, t1, t5, h.Xlen]
      refine ⟨⟨k + 1, by rw [hp2], Nat.le_of_not_lt fun hlt => ?_, Or.inr (by omega), by omega⟩, by simp only [Int.toNat_natCast]; omega⟩
      have : 2 ^ 17 ≤ 2 ^ (k + 1) := Nat.pow_le_pow_right (by omega) hlt
      omega
    · have h0 : ¬ l.length = 0 := by omega
      have h3 : 2 ^ k ≤ l.length := by omega
      simp (maxSteps := 1000000) (disch := omega) only [WS, List.getElem_cons_zero, List.getElem_cons_succ, Option.isNone_some, Option.isNone_none, List.getD_cons_zero, List.getD_cons_succ, I.at, atL, atO, atP, evp, evs, retV, ↓reduceIte, Nat.reduceEqDiff, reduceCtorEq, AS, t0, t1, t5, h.Xlen, h.XslcHi h3]
      exact Or.inr ⟨k, hk, h3, hkm, rfl⟩
  · by_cases h0 : l.length = 0
    · simp (maxSteps := 1000000) (disch := omega) only [WS, List.getElem_cons_zero, List.getElem_cons_succ, Option.isNone_some, Option.isNone_none, List.getD_cons_zero, List.getD_cons_succ, I.at, atL, atO, atP, evp, evs, retV, ↓reduceIte, Nat.reduceEqDiff, reduceCtorEq, AS, t0, t1, t5, h.Xlen]
      exact Or.inl h0
    · have h3 : 2 ^ k ≤ l.length := by omega
      simp (maxSteps := 1000000) (disch := omega) only [WS, List.getElem_cons_zero, List.getElem_cons_succ, Option.isNone_some, Option.isNone_none, List.getD_cons_zero, List.getD_cons_succ, I.at, atL, atO, atP, evp, evs, retV, ↓reduceIte, Nat.reduceEqDiff, reduceCtorEq, AS, t0, t1, t5, h.Xlen, h.XslcHi h3]
      exact Or.inr ⟨k, hk, h3, hkm, rfl⟩
theorem culletlaw14_begin_spec (w : World) (a : Int) (k : Nat) (hk : k ≤ 16) (ha : -9223372036854775808 ≤ a ∧ a ≤ 9223372036854775807) :
    CallV Try.prog 16 [.int .i64 a, .int .i64 ((2 ^ k : Nat) : Int)] w fun v w' => w' = w ∧ ∃ s : Nat, v = .int .i64 (s : Int) ∧ s % 2 ^ k = 0 ∧ s + 2 ^ k ≤ 65536 := by
  refine run_culletlaw14_begin (by simp) ?_
  have hp := Nat.two_pow_pos k
  have hp16 : 2 ^ k ≤ 65536 := by have : 2 ^ k ≤ 2 ^ 16 := Nat.pow_le_pow_right (by omega) hk; omega
  have hc0 := Nat.two_pow_pos (16 - k)
  have hc : 2 ^ (16 - k) * 2 ^ k = 65536 := by rw [← Nat.pow_add, show 16 - k + k = 16 by omega]
  have hc16 : 2 ^ (16 - k) ≤ 65536 := by have : 2 ^ (16 - k) ≤ 2 ^ 16 := Nat.pow_le_pow_right (by omega) (by omega); omega
  have e1 : IntKind.i64.wrap ((65536 : Int).tdiv ((2 ^ k : Nat) : Int)) = ((2 ^ (16 - k) : Nat) : Int) := by
    rw [show (65536 : Int) = ((65536 : Nat) : Int) from rfl, tdiv_nat, ← hc, Nat.mul_div_cancel _ hp, wrap_64 _ (by omega)]
  generalize hC : 2 ^ (16 - k) = c at *
  have hb := Int.natAbs_tmod a (c : Int)
  have hb2 : a.natAbs % (c : Int).natAbs < c := by rw [Int.natAbs_natCast]; exact Nat.mod_lt _ hc0
  rw [← hb] at hb2
  have hne : ((c : Int) ≠ 0) = True := eq_true (by omega)
  have hne2 : ((((2 ^ k : Nat) : Int)) ≠ 0) = True := eq_true (by omega)
  generalize hr : a.tmod (c : Int) = r at *
  have e2 : IntKind.i64.wrap (r + (c : Int)) = r + (c : Int) := wrap_id (by omega) (by omega)
  obtain ⟨z, hz⟩ : ∃ z : Nat, r + (c : Int) = (z : Int) := ⟨(r + (c : Int)).toNat, by omega⟩
  have hlt : z % c < c := Nat.mod_lt _ hc0
  have hm : (z % c) * 2 ^ k + 2 ^ k ≤ 65536 := by
    rw [← hc, show z % c * 2 ^ k + 2 ^ k = (z % c + 1) * 2 ^ k by rw [Nat.add_mul, Nat.one_mul]]
    exact Nat.mul_le_mul_right _ hlt
  have e3 : IntKind.i64.wrap (((z % c : Nat) : Int) * ((2 ^ k : Nat) : Int)) = ((z % c * 2 ^ k : Nat) : Int) := w_mul _ _ (by omega)
  simp (maxSteps := 1000000) (disch := omega) only [c_culletlaw14_begin, WS, List.getElem_cons_zero, List.getElem_cons_succ, Option.isNone_some, Option.isNone_none, List.getD_cons_zero, List.getD_cons_succ, I.at, atL, atO, atP, evp, evs, retV, ↓reduceIte, Nat.reduceEqDiff, reduceCtorEq, X_quo, X_rem, hne, hne2, e1, hr, hz, w_nat, tmod_nat, e3]
  exact ⟨_, rfl, Nat.mul_mod_left _ _, hm⟩
theorem culletlaw14_awake_spec (w : World) : CallV Try.prog 14 [] w fun v w' => v = .bool true ∧ RowKit.Below w.heap.size w w' := by
  refine run_culletlaw14_awake (by simp) ?_
  simp only [c_culletlaw14_awake, WS, List.getElem_cons_zero, List.getElem_cons_succ, Option.isNone_some, Option.isNone_none, List.getD_cons_zero, List.getD_cons_succ, I.at, atL, atO, atP, evp, evs, retV, ↓reduceIte, Nat.reduceEqDiff, reduceCtorEq]
  refine X_bsl (zs := [(⟨7⟩ : El 16), ⟨1⟩]) (by rfl) (by rfl) fun c1 w1 hc1 hB => ?_
  have B := hB
  clear hB
  simp (maxSteps := 1000000) (disch := omega) only [WS, List.getElem_cons_zero, List.getElem_cons_succ, Option.isNone_some, Option.isNone_none, List.getD_cons_zero, List.getD_cons_succ, I.at, atL, atO, atP, evp, evs, retV, ↓reduceIte, Nat.reduceEqDiff, reduceCtorEq, AS]
  refine X_call0 ((afft_Forward_spec w1 c1 _ 0 hc1.sl (by simp)).mono ?_)
  rintro _ w2 ⟨hB, ⟨k, hk, hlk, -, sa, a, rfl, oa, la, hva⟩ | ⟨hbad, -⟩ | ⟨-, hbad, -⟩⟩
  rotate_left
  · exact absurd hbad (by decide +kernel)
  · exact absurd hbad (by decide +kernel)
  obtain rfl : k = 1 := pow2_inj hlk.symm
  obtain rfl : a = [⟨7⟩, ⟨6⟩] := (list_co la hva).trans (by decide +kernel)
  have oa := oa.sl
  clear hlk la hva hc1
  have B := B.trans (hB.mono B.size)
  clear hB
  simp (maxSteps := 1000000) (disch := omega) only [WS, List.getElem_cons_zero, List.getElem_cons_succ, Option.isNone_some, Option.isNone_none, List.getD_cons_zero, List.getD_cons_succ, I.at, atL, atO, atP, evp, evs, retV, ↓reduceIte, Nat.reduceEqDiff, reduceCtorEq, AS]
  refine X_bsl (zs := [(⟨7⟩ : El 16), ⟨6⟩]) (by rfl) (by rfl) fun c1 w1 hc1 hB => ?_
  have oa := oa.up hB
  have B := B.trans (hB.mono B.size)
  clear hB
  simp (maxSteps := 1000000) (disch := omega) only [WS, List.getElem_cons_zero, List.getElem_cons_succ, Option.isNone_some, Option.isNone_none, List.getD_cons_zero, List.getD_cons_succ, I.at, atL, atO, atP, evp, evs, retV, ↓reduceIte, Nat.reduceEqDiff, reduceCtorEq, AS]
  refine X_call0 ((afft_Inverse_spec w1 c1 _ 0 hc1.sl (by simp)).mono ?_)
  rintro _ w2 ⟨hB, ⟨k, hk, hlk, -, sb, b, rfl, ob, lb, hvb⟩ | ⟨hbad, -⟩ | ⟨-, hbad, -⟩⟩
  rotate_left
  · exact absurd hbad (by decide +kernel)
  · exact absurd hbad (by decide +kernel)
  obtain rfl : k = 1 := pow2_inj hlk.symm
  obtain rfl : b = [⟨7⟩, ⟨1⟩] := (list_co lb hvb).trans (by decide +kernel)
  have ob := ob.sl
  clear hlk lb hvb hc1
  have oa := oa.up hB
  have B := B.trans (hB.mono B.size)
  clear hB
  simp (maxSteps := 1000000) (disch := omega) only [WS, List.getElem_cons_zero, List.getElem_cons_succ, Option.isNone_some, Option.isNone_none, List.getD_cons_zero, List.getD_cons_succ, I.at, atL, atO, atP, evp, evs, retV, ↓reduceIte, Nat.reduceEqDiff, reduceCtorEq, AS]
  refine X_bsl (zs := [(⟨5⟩ : El 16), ⟨5⟩, ⟨3⟩, ⟨3⟩]) (by rfl) (by rfl) fun c1 w1 hc1 hB => ?_
  have oa := oa.up hB
  have ob := ob.up hB
  have B := B.trans (hB.mono B.size)
  clear hB
  simp (maxSteps := 1000000) (disch := omega) only [WS, List.getElem_cons_zero, List.getElem_cons_succ, Option.isNone_some, Option.isNone_none, List.getD_cons_zero, List.getD_cons_succ, I.at, atL, atO, atP, evp, evs, retV, ↓reduceIte, Nat.reduceEqDiff, reduceCtorEq, AS]
  refine X_call0 ((afft_Fold_spec w1 c1 _ 2 2 hc1.sl (by simp)).mono ?_)
  rintro _ w2 ⟨hB, ⟨k, q, hk, hn, hlk, -, -, sc, c, rfl, oc, lc, hvc⟩ | ⟨hbad, -⟩ | ⟨-, hbad, -⟩ | ⟨-, -, hbad, -⟩⟩
  rotate_left
  · exact absurd hbad (by decide +kernel)
  · exact absurd hbad (by decide +kernel)
  · exact absurd hbad (by decide +kernel)
  obtain rfl : k = 1 := pow2_inj (show 2 ^ k = 2 ^ 1 by omega)
  obtain rfl : q = 2 := by simp at hlk; omega
  obtain rfl : c = [⟨6⟩, ⟨0⟩] := (list_co lc hvc).trans (by decide +kernel)
  have oc := oc.sl
  clear hlk lc hvc hc1 hn
  have oa := oa.up hB
  have ob := ob.up hB
  have B := B.trans (hB.mono B.size)
  clear hB
  simp (maxSteps := 1000000) (disch := omega) only [WS, List.getElem_cons_zero, List.getElem_cons_succ, Option.isNone_some, Option.isNone_none, List.getD_cons_zero, List.getD_cons_succ, I.at, atL, atO, atP, evp, evs, retV, ↓reduceIte, Nat.reduceEqDiff, reduceCtorEq, AS]
  refine X_bsl (zs := [(⟨7⟩ : El 16), ⟨5⟩]) (by rfl) (by rfl) fun r1 w3 o1 hB3 => ?_
  simp (maxSteps := 1000000) (disch := omega) only [WS, List.getElem_cons_zero, List.getElem_cons_succ, Option.isNone_some, Option.isNone_none, List.getD_cons_zero, List.getD_cons_succ, I.at, atL, atO, atP, evp, evs, retV, ↓reduceIte, Nat.reduceEqDiff, reduceCtorEq, AS]
  refine X_bsl (zs := [(⟨1⟩ : El 16), ⟨0⟩]) (by rfl) (by rfl) fun r2 w4 o2 hB4 => ?_
  have n1 : ∀ b, Fw.blk r1 = some b → b < w3.heap.size := fun b hb => (o1.blk b hb).2
  have n2 : ∀ b, Fw.blk r2 = some b → w3.heap.size ≤ b ∧ b < w4.heap.size := fun b hb => o2.blk b hb
  have o1 := o1.up hB4
  simp (maxSteps := 1000000) (disch := omega) only [WS, List.getElem_cons_zero, List.getElem_cons_succ, Option.isNone_some, Option.isNone_none, List.getD_cons_zero, List.getD_cons_succ, I.at, atL, atO, atP, evp, evs, retV, ↓reduceIte, Nat.reduceEqDiff, reduceCtorEq, AS]
  refine X_bsl (zs := [hd r1, hd r2]) (fill2 o1.sl o2.sl) (by rfl) fun rows w5 orr hB5 => ?_
  have n3 : ∀ b, Fw.blk rows = some b → w4.heap.size ≤ b := fun b hb => (orr.blk b hb).1
  have o1 := o1.up hB5
  have o2 := (o2.up hB5).mono hB3.size
  have hB' : RowKit.Below w2.heap.size w2 w5 := (hB3.trans (hB4.mono hB3.size)).trans (hB5.mono (Nat.le_trans hB3.size hB4.size))
  have s5 : w2.heap.size ≤ w5.heap.size := hB'.size
  have v1 : Cell.v (hd r1) = r1 := o1.sl.hd.1
  have v2 : Cell.v (hd r2) = r2 := o2.sl.hd.1
  have hap : Apart rows [hd r1, hd r2] := by
    constructor
    · intro i j hi hj b hij hb1 hb2
      have : (i = 0 ∧ j = 1) ∨ (i = 1 ∧ j = 0) := by simp at hi hj; omega
      rcases this with ⟨rfl, rfl⟩ | ⟨rfl, rfl⟩
      · simp only [List.getElem_cons_zero, List.getElem_cons_succ, v1, v2] at hb1 hb2
        have := n1 b hb1; have := n2 b hb2; omega
      · simp only [List.getElem_cons_zero, List.getElem_cons_succ, v1, v2] at hb1 hb2
        have := n1 b hb2; have := n2 b hb1; omega
    · intro i hi b hb1 hb2
      have h3 := n3 b hb2
      have : i = 0 ∨ i = 1 := by simp at hi; omega
      rcases this with rfl | rfl
      · simp only [List.getElem_cons_zero, v1] at hb1
        have := n1 b hb1; have := hB4.size; omega
      · simp only [List.getElem_cons_zero, List.getElem_cons_succ, v2] at hb1
        have := n2 b hb1; omega
  have hR : Rown (α := El 16) w2.heap.size w2 rows [hd r1, hd r2] [[⟨7⟩, ⟨5⟩], [⟨1⟩, ⟨0⟩]] w5 := by
    refine ⟨rfl, fun i hi => ?_, orr.sl, hB', s5⟩
    have : i = 0 ∨ i = 1 := by simp at hi; omega
    rcases this with rfl | rfl
    · simp only [List.getElem_cons_zero, v1]; exact o1
    · simp only [List.getElem_cons_zero, List.getElem_cons_succ, v2]; exact o2
  clear o1 o2 orr hB3 hB4 hB5 n1 n2 n3 hB' s5
  simp (maxSteps := 1000000) (disch := omega) only [WS, List.getElem_cons_zero, List.getElem_cons_succ, Option.isNone_some, Option.isNone_none, List.getD_cons_zero, List.getD_cons_succ, I.at, atL, atO, atP, evp, evs, retV, ↓reduceIte, Nat.reduceEqDiff, reduceCtorEq, AS]
  have h01 : ∀ i, i < [hd r1, hd r2].length → i = 0 ∨ i = 1 := fun i hi => by simp at hi; omega
  have hb01 : ∀ i, i < [hd r1, hd r2].length → (List.getD [[(⟨7⟩ : El 16), ⟨5⟩], [⟨1⟩, ⟨0⟩]] i []).length = 2 := fun i hi => by
    rcases h01 i hi with rfl | rfl <;> rfl
  refine X_call0 ((afft_ForwardRows_spec (M := Rown w2.heap.size w2 rows [hd r1, hd r2]) w5 rows [hd r1, hd r2] _ 0 (Rown.rws hap) hR (by simp) (fun i hi => by rw [hb01 i hi]; omega)).mono ?_)
  rintro _ w6 (⟨k, q, hk, hlk, -, hq, rfl, R', hM, hRl, hql, hit⟩ | ⟨rfl, ⟨hbad, -⟩ | ⟨-, hbad, -⟩ | ⟨-, -, hbad, -⟩⟩)
  rotate_left
  · exact absurd hbad (show ¬ isP 2 = false by decide +kernel)
  · exact absurd ⟨2, hb01⟩ hbad
  · exact absurd hbad (show ¬ isC 0 2 2 = false by decide +kernel)
  obtain rfl : k = 1 := pow2_inj hlk.symm
  obtain rfl : q = 2 := (hq 0 (by decide)).symm
  have e0 : R'.getD 0 [] = [⟨7⟩, ⟨5⟩] := (list_co (hql 0 (by decide)) (fun c hc => hit 0 c (by decide))).trans (by decide +kernel)
  have e1 : R'.getD 1 [] = [⟨6⟩, ⟨5⟩] := (list_co (hql 1 (by decide)) (fun c hc => hit 1 c (by decide))).trans (by decide +kernel)
  obtain ⟨-, hO, hrows, hBr, hsr⟩ := hM
  have q0 := (hO 0 (by simp)).sl
  have q1 := (hO 1 (by simp)).sl
  rw [e0] at q0
  rw [e1] at q1
  simp only [List.getElem_cons_zero, List.getElem_cons_succ, v1, v2] at q0 q1
  have oa := oa.up hBr
  have ob := ob.up hBr
  have oc := oc.up hBr
  have B := B.trans (hBr.mono B.size)
  clear hBr
  clear hO e0 e1 hit hql hR hap hq hRl hlk
  simp (maxSteps := 1000000) (disch := omega) only [WS, List.getElem_cons_zero, List.getElem_cons_succ, Option.isNone_some, Option.isNone_none, List.getD_cons_zero, List.getD_cons_succ, I.at, atL, atO, atP, evp, evs, retV, ↓reduceIte, Nat.reduceEqDiff, reduceCtorEq, AS]
  refine X_bsl (zs := [(⟨7⟩ : El 16), ⟨6⟩]) (by rfl) (by rfl) fun c1 w1 hc1 hB => ?_
  have oa := oa.up hB
  have ob := ob.up hB
  have oc := oc.up hB
  have q0 := q0.up hB
  have q1 := q1.up hB
  have hrows := hrows.up hB
  have B := B.trans (hB.mono B.size)
  clear hB
  simp (maxSteps := 1000000) (disch := omega) only [WS, List.getElem_cons_zero, List.getElem_cons_succ, Option.isNone_some, Option.isNone_none, List.getD_cons_zero, List.getD_cons_succ, I.at, atL, atO, atP, evp, evs, retV, ↓reduceIte, Nat.reduceEqDiff, reduceCtorEq, AS]
  refine X_call0 ((culletlaw14_alike_spec w1 sa c1 _ _ oa hc1.sl (by simp) (by simp)).mono ?_)
  rintro _ w2 ⟨rfl, hk1⟩
  have hB := hk1.1
  have ob := ob.up hB
  have oc := oc.up hB
  have q0 := q0.up hB
  have q1 := q1.up hB
  have hrows := hrows.up hB
  have B := B.trans (hB.mono B.size)
  clear hB
  clear hc1 hk1
  simp (maxSteps := 1000000) (disch := omega) only [WS, List.getElem_cons_zero, List.getElem_cons_succ, Option.isNone_some, Option.isNone_none, List.getD_cons_zero, List.getD_cons_succ, I.at, atL, atO, atP, evp, evs, retV, ↓reduceIte, Nat.reduceEqDiff, reduceCtorEq, AS]
  refine X_bsl (zs := [(⟨7⟩ : El 16), ⟨1⟩]) (by rfl) (by rfl) fun c1 w1 hc1 hB => ?_
  have ob := ob.up hB
  have oc := oc.up hB
  have q0 := q0.up hB
  have q1 := q1.up hB
  have hrows := hrows.up hB
  have B := B.trans (hB.mono B.size)
  clear hB
  simp (maxSteps := 1000000) (disch := omega) only [WS, List.getElem_cons_zero, List.getElem_cons_succ, Option.isNone_some, Option.isNone_none, List.getD_cons_zero, List.getD_cons_succ, I.at, atL, atO, atP, evp, evs, retV, ↓reduceIte, Nat.reduceEqDiff, reduceCtorEq, AS]
  refine X_call0 ((culletlaw14_alike_spec w1 sb c1 _ _ ob hc1.sl (by simp) (by simp)).mono ?_)
  rintro _ w2 ⟨rfl, hk1⟩
  have hB := hk1.1
  have oc := oc.up hB
  have q0 := q0.up hB
  have q1 := q1.up hB
  have hrows := hrows.up hB
  have B := B.trans (hB.mono B.size)
  clear hB
  clear hc1 hk1
  simp (maxSteps := 1000000) (disch := omega) only [WS, List.getElem_cons_zero, List.getElem_cons_succ, Option.isNone_some, Option.isNone_none, List.getD_cons_zero, List.getD_cons_succ, I.at, atL, atO, atP, evp, evs, retV, ↓reduceIte, Nat.reduceEqDiff, reduceCtorEq, AS]
  refine X_bsl (zs := [(⟨6⟩ : El 16), ⟨0⟩]) (by rfl) (by rfl) fun c1 w1 hc1 hB => ?_
  have oc := oc.up hB
  have q0 := q0.up hB
  have q1 := q1.up hB
  have hrows := hrows.up hB
  have B := B.trans (hB.mono B.size)
  clear hB
  simp (maxSteps := 1000000) (disch := omega) only [WS, List.getElem_cons_zero, List.getElem_cons_succ, Option.isNone_some, Option.isNone_none, List.getD_cons_zero, List.getD_cons_succ, I.at, atL, atO, atP, evp, evs, retV, ↓reduceIte, Nat.reduceEqDiff, reduceCtorEq, AS]
  refine X_call0 ((culletlaw14_alike_spec w1 sc c1 _ _ oc hc1.sl (by simp) (by simp)).mono ?_)
  rintro _ w2 ⟨rfl, hk1⟩
  have hB := hk1.1
  have q0 := q0.up hB
  have q1 := q1.up hB
  have hrows := hrows.up hB
  have B := B.trans (hB.mono B.size)
  clear hB
  clear hc1 hk1
  simp (maxSteps := 1000000) (disch := omega) only [WS, List.getElem_cons_zero, List.getElem_cons_succ, Option.isNone_some, Option.isNone_none, List.getD_cons_zero, List.getD_cons_succ, I.at, atL, atO, atP, evp, evs, retV, ↓reduceIte, Nat.reduceEqDiff, reduceCtorEq, AS, hrows.Xlen, show (([hd r1, hd r2].length : Nat) : Int) = 2 from rfl, hrows.Xix0 (by simp), hrows.Xld (i := 0) (by simp), v1]
  refine X_bsl (zs := [(⟨7⟩ : El 16), ⟨5⟩]) (by rfl) (by rfl) fun c1 w1 hc1 hB => ?_
  have q0 := q0.up hB
  have q1 := q1.up hB
  have hrows := hrows.up hB
  have B := B.trans (hB.mono B.size)
  clear hB
  simp (maxSteps := 1000000) (disch := omega) only [WS, List.getElem_cons_zero, List.getElem_cons_succ, Option.isNone_some, Option.isNone_none, List.getD_cons_zero, List.getD_cons_succ, I.at, atL, atO, atP, evp, evs, retV, ↓reduceIte, Nat.reduceEqDiff, reduceCtorEq, AS]
  refine X_call0 ((culletlaw14_alike_spec w1 r1 c1 _ _ q0 hc1.sl (by simp) (by simp)).mono ?_)
  rintro _ w2 ⟨rfl, hk1⟩
  have hB := hk1.1
  have q1 := q1.up hB
  have hrows := hrows.up hB
  have B := B.trans (hB.mono B.size)
  clear hB
  clear hc1 hk1
  simp (maxSteps := 1000000) (disch := omega) only [WS, List.getElem_cons_zero, List.getElem_cons_succ, Option.isNone_some, Option.isNone_none, List.getD_cons_zero, List.getD_cons_succ, I.at, atL, atO, atP, evp, evs, retV, ↓reduceIte, Nat.reduceEqDiff, reduceCtorEq, AS, hrows.Xixc 1 1 rfl (by simp), hrows.Xld (i := 1) (by simp), v2]
  refine X_bsl (zs := [(⟨6⟩ : El 16), ⟨5⟩]) (by rfl) (by rfl) fun c1 w1 hc1 hB => ?_
  have q1 := q1.up hB
  have hrows := hrows.up hB
  have B := B.trans (hB.mono B.size)
  clear hB
  simp (maxSteps := 1000000) (disch := omega) only [WS, List.getElem_cons_zero, List.getElem_cons_succ, Option.isNone_some, Option.isNone_none, List.getD_cons_zero, List.getD_cons_succ, I.at, atL, atO, atP, evp, evs, retV, ↓reduceIte, Nat.reduceEqDiff, reduceCtorEq, AS]
  refine X_call0 ((culletlaw14_alike_spec w1 r2 c1 _ _ q1 hc1.sl (by simp) (by simp)).mono ?_)
  rintro _ w2 ⟨rfl, hk1⟩
  have hB := hk1.1
  have B := B.trans (hB.mono B.size)
  clear hB
  simp (maxSteps := 1000000) (disch := omega) only [WS, List.getElem_cons_zero, List.getElem_cons_succ, Option.isNone_some, Option.isNone_none, List.getD_cons_zero, List.getD_cons_succ, I.at, atL, atO, atP, evp, evs, retV, ↓reduceIte, Nat.reduceEqDiff, reduceCtorEq, AS]
  exact B
end Go.Proofs.Ytpmfeaajpjjfiaa.Fw
