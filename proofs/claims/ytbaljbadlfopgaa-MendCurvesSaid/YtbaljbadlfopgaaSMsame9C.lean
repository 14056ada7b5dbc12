import Derived.Test.YtbaljbadlfopgaaProg
import Derived.Test.YtbaljbadlfopgaaFwTC
import Derived.Test.YtbaljbadlfopgaaSMrC
import Derived.Test.YtbaljbadlfopgaaGfMdC
set_option linter.all false
set_option linter.unusedVariables false
set_option linter.unusedSimpArgs false
set_option maxRecDepth 100000
set_option maxHeartbeats 1000000
namespace Go.Proofs.Ytbaljbadlfopgaa.Fw
open Go Go.Fw Go.Proofs
attribute [local irreducible] stepI
def c_culletlaw19_sameBytes : C := .seq (.ops [⟨0, (some 4), none, .mov (.c (.bool false)), []⟩]) (.seq (.seq (.ops [⟨0, (some 6), none, .mov (.t 0), []⟩, ⟨1, (some 7), none, .len (.t 6), []⟩, ⟨2, (some 8), none, .mov (.t 1), []⟩, ⟨3, (some 9), none, .len (.t 8), []⟩, ⟨4, (some 10), none, .bin .neq (.t 7) (.t 9), []⟩]) (.ite (.t 10) (.seq (.ops [⟨0, (some 4), none, .mov (.c (.bool false)), []⟩]) .ret) .skip)) (.seq (.seq (.ops [⟨0, (some 5), none, .mov (.c (.int .i64 0)), []⟩]) (.block 0 (.loop (.seq (.seq (.ops [⟨0, (some 11), none, .mov (.t 5), []⟩, ⟨1, (some 12), none, .mov (.t 0), []⟩, ⟨2, (some 13), none, .len (.t 12), []⟩, ⟨3, (some 14), none, .bin .lss (.t 11) (.t 13), []⟩]) (.ite (.t 14) .skip (.exit 0))) (.seq (.block 1 (.seq (.dops [⟨0, (some 17), none, .mov (.t 0), []⟩, ⟨1, (some 18), none, .mov (.t 5), []⟩, ⟨2, (some 19), none, .ixs 1 (.t 17) (.t 18), []⟩, ⟨3, (some 20), none, .ld (.t 19), []⟩, ⟨4, (some 21), none, .mov (.t 1), []⟩, ⟨5, (some 22), none, .mov (.t 5), []⟩, ⟨6, (some 23), none, .ixs 1 (.t 21) (.t 22), []⟩, ⟨7, (some 24), none, .ld (.t 23), []⟩, ⟨8, (some 25), none, .bin .neq (.t 20) (.t 24), []⟩]) (.ite (.t 25) (.seq (.ops [⟨0, (some 4), none, .mov (.c (.bool false)), []⟩]) .ret) .skip))) (.ops [⟨0, (some 15), none, .mov (.t 5), []⟩, ⟨1, (some 16), none, .bin .add (.t 15) (.c (.int .i64 1)), []⟩, ⟨2, (some 5), none, .mov (.t 16), []⟩])))))) (.seq (.ops [⟨0, (some 4), none, .mov (.c (.bool true)), []⟩]) .ret)))
attribute [irreducible] c_culletlaw19_sameBytes
theorem run_culletlaw19_sameBytes {args : List Value} {w : World} {K : Value → World → Prop} (hn : args.length ≤ 26) (h : WP Try.prog c_culletlaw19_sameBytes (endQ [.t 4] K) (initT args) w) : CallV Try.prog 17 args w K :=
  call_of follows Try.func17 (by kernel_rfl) (by kernel_rfl) hn h
def c_culletlaw19_sameInts : C := .seq (.ops [⟨0, (some 4), none, .mov (.c (.bool false)), []⟩]) (.seq (.seq (.ops [⟨0, (some 6), none, .mov (.t 0), []⟩, ⟨1, (some 7), none, .len (.t 6), []⟩, ⟨2, (some 8), none, .mov (.t 1), []⟩, ⟨3, (some 9), none, .len (.t 8), []⟩, ⟨4, (some 10), none, .bin .neq (.t 7) (.t 9), []⟩]) (.ite (.t 10) (.seq (.ops [⟨0, (some 4), none, .mov (.c (.bool false)), []⟩]) .ret) .skip)) (.seq (.seq (.ops [⟨0, (some 5), none, .mov (.c (.int .i64 0)), []⟩]) (.block 0 (.loop (.seq (.seq (.ops [⟨0, (some 11), none, .mov (.t 5), []⟩, ⟨1, (some 12), none, .mov (.t 0), []⟩, ⟨2, (some 13), none, .len (.t 12), []⟩, ⟨3, (some 14), none, .bin .lss (.t 11) (.t 13), []⟩]) (.ite (.t 14) .skip (.exit 0))) (.seq (.block 1 (.seq (.dops [⟨0, (some 17), none, .mov (.t 0), []⟩, ⟨1, (some 18), none, .mov (.t 5), []⟩, ⟨2, (some 19), none, .ixs 1 (.t 17) (.t 18), []⟩, ⟨3, (some 20), none, .ld (.t 19), []⟩, ⟨4, (some 21), none, .mov (.t 1), []⟩, ⟨5, (some 22), none, .mov (.t 5), []⟩, ⟨6, (some 23), none, .ixs 1 (.t 21) (.t 22), []⟩, ⟨7, (some 24), none, .ld (.t 23), []⟩, ⟨8, (some 25), none, .bin .neq (.t 20) (.t 24), []⟩]) (.ite (.t 25) (.seq (.ops [⟨0, (some 4), none, .mov (.c (.bool false)), []⟩]) .ret) .skip))) (.ops [⟨0, (some 15), none, .mov (.t 5), []⟩, ⟨1, (some 16), none, .bin .add (.t 15) (.c (.int .i64 1)), []⟩, ⟨2, (some 5), none, .mov (.t 16), []⟩])))))) (.seq (.ops [⟨0, (some 4), none, .mov (.c (.bool true)), []⟩]) .ret)))
attribute [irreducible] c_culletlaw19_sameInts
theorem run_culletlaw19_sameInts {args : List Value} {w : World} {K : Value → World → Prop} (hn : args.length ≤ 26) (h : WP Try.prog c_culletlaw19_sameInts (endQ [.t 4] K) (initT args) w) : CallV Try.prog 20 args w K :=
  call_of follows Try.func20 (by kernel_rfl) (by kernel_rfl) hn h
end Go.Proofs.Ytbaljbadlfopgaa.Fw
namespace Go.Proofs.Ytbaljbadlfopgaa.Fw
open Go Go.Fw
theorem culletlaw19_sameBytes_spec (w : World) (s1 s2 : Value) (l1 l2 : List (El 8)) (h1 : Sl w s1 l1) (h2 : Sl w s2 l2) (hb : l1.length ≤ 140737488355328) (hb2 : l2.length ≤ 140737488355328) :
    CallV Try.prog 17 [s1, s2] w fun v w' => v = .bool (decide (l1 = l2)) ∧ Like w w' := by
  refine run_culletlaw19_sameBytes (by simp) ?_
  simp only [c_culletlaw19_sameBytes, WS, List.getElem_cons_zero, List.getElem_cons_succ, Option.isNone_some, Option.isNone_none, List.getD_cons_zero, List.getD_cons_succ, I.at, atL, atO, atP, evp, evs, retV, ↓reduceIte, Nat.reduceEqDiff, reduceCtorEq, h1.Xlen, h2.Xlen]
  by_cases hl : l1.length = l2.length
  · simp only [WS, List.getElem_cons_zero, List.getElem_cons_succ, Option.isNone_some, Option.isNone_none, List.getD_cons_zero, List.getD_cons_succ, I.at, atL, atO, atP, evp, evs, retV, ↓reduceIte, Nat.reduceEqDiff, reduceCtorEq, show decide ((l1.length : Int) = (l2.length : Int)) = true from decide_eq_true (by omega)]
    refine loop_of (fun t w' => Like w w' ∧ t 0 = s1 ∧ t 1 = s2 ∧ ∃ i : Nat, t 5 = .int .i64 (i : Int) ∧ i ≤ l1.length ∧ l1.take i = l2.take i) (fun t _ => l1.length - (toI (t 5)).toNat) ⟨Like.refl w, rfl, rfl, 0, rfl, by omega, by simp⟩ ?_
    rintro t w' ⟨hk, t0, t1, i, t5, hi, he⟩
    have g1 := hk.sl h1
    have g2 := hk.sl h2
    by_cases hlt : i < l1.length
    · have hlt2 : i < l2.length := by omega
      simp only [WS, List.getElem_cons_zero, List.getElem_cons_succ, Option.isNone_some, Option.isNone_none, List.getD_cons_zero, List.getD_cons_succ, I.at, atL, atO, atP, evp, evs, retV, ↓reduceIte, Nat.reduceEqDiff, reduceCtorEq, t0, t1, t5, g1.Xlen, show decide ((i : Int) < (l1.length : Int)) = true from decide_eq_true (by omega)]
      refine WP_dops ?_
      simp only [ES, List.mem_cons, List.not_mem_nil, implies_true, forall_const, WS, List.getElem_cons_zero, List.getElem_cons_succ, Option.isNone_some, Option.isNone_none, List.getD_cons_zero, List.getD_cons_succ, I.at, atL, atO, atP, evp, evs, retV, ↓reduceIte, Nat.reduceEqDiff, reduceCtorEq, t0, t1, t5, g1.drew.Eix hlt, g1.drew.Eld hlt, g2.drew.Eix hlt2, g2.drew.Eld hlt2, cell_e8, el_eq]
      by_cases hx : l1[i] = l2[i]
      · simp only [WS, List.getElem_cons_zero, List.getElem_cons_succ, Option.isNone_some, Option.isNone_none, List.getD_cons_zero, List.getD_cons_succ, I.at, atL, atO, atP, evp, evs, retV, ↓reduceIte, Nat.reduceEqDiff, reduceCtorEq, t0, t1, t5, decide_eq_true hx, wrap_id (show -9223372036854775808 ≤ (i : Int) + 1 by omega) (show (i : Int) + 1 < 9223372036854775808 by omega), toI_int]
        refine ⟨⟨hk.trans (Like.drew _), i + 1, rfl, by omega, ?_⟩, by omega⟩
        rw [List.take_add_one, List.take_add_one, he, List.getElem?_eq_getElem hlt, List.getElem?_eq_getElem hlt2, hx]
      · have : ¬ l1 = l2 := fun e => hx (by subst e; rfl)
        simp only [WS, List.getElem_cons_zero, List.getElem_cons_succ, Option.isNone_some, Option.isNone_none, List.getD_cons_zero, List.getD_cons_succ, I.at, atL, atO, atP, evp, evs, retV, ↓reduceIte, Nat.reduceEqDiff, reduceCtorEq, t0, t1, t5, decide_eq_false hx, decide_eq_false this]
        exact hk.trans (Like.drew _)
    · rw [List.take_of_length_le (by omega), List.take_of_length_le (by omega)] at he
      simp only [WS, List.getElem_cons_zero, List.getElem_cons_succ, Option.isNone_some, Option.isNone_none, List.getD_cons_zero, List.getD_cons_succ, I.at, atL, atO, atP, evp, evs, retV, ↓reduceIte, Nat.reduceEqDiff, reduceCtorEq, t0, t1, t5, g1.Xlen, show decide ((i : Int) < (l1.length : Int)) = false from decide_eq_false (by omega), decide_eq_true he]
      exact hk
  · have : ¬ l1 = l2 := fun e => hl (by rw [e])
    simp only [WS, List.getElem_cons_zero, List.getElem_cons_succ, Option.isNone_some, Option.isNone_none, List.getD_cons_zero, List.getD_cons_succ, I.at, atL, atO, atP, evp, evs, retV, ↓reduceIte, Nat.reduceEqDiff, reduceCtorEq, show decide ((l1.length : Int) = (l2.length : Int)) = false from decide_eq_false (by omega), decide_eq_false this]
    exact Like.refl w
theorem culletlaw19_sameInts_spec (w : World) (s1 s2 : Value) (l1 l2 : List Int) (h1 : Sl w s1 l1) (h2 : Sl w s2 l2) (hb : l1.length ≤ 140737488355328) (hb2 : l2.length ≤ 140737488355328) :
    CallV Try.prog 20 [s1, s2] w fun v w' => v = .bool (decide (l1 = l2)) ∧ Like w w' := by
  refine run_culletlaw19_sameInts (by simp) ?_
  simp only [c_culletlaw19_sameInts, WS, List.getElem_cons_zero, List.getElem_cons_succ, Option.isNone_some, Option.isNone_none, List.getD_cons_zero, List.getD_cons_succ, I.at, atL, atO, atP, evp, evs, retV, ↓reduceIte, Nat.reduceEqDiff, reduceCtorEq, h1.Xlen, h2.Xlen]
  by_cases hl : l1.length = l2.length
  · simp only [WS, List.getElem_cons_zero, List.getElem_cons_succ, Option.isNone_some, Option.isNone_none, List.getD_cons_zero, List.getD_cons_succ, I.at, atL, atO, atP, evp, evs, retV, ↓reduceIte, Nat.reduceEqDiff, reduceCtorEq, show decide ((l1.length : Int) = (l2.length : Int)) = true from decide_eq_true (by omega)]
    refine loop_of (fun t w' => Like w w' ∧ t 0 = s1 ∧ t 1 = s2 ∧ ∃ i : Nat, t 5 = .int .i64 (i : Int) ∧ i ≤ l1.length ∧ l1.take i = l2.take i) (fun t _ => l1.length - (toI (t 5)).toNat) ⟨Like.refl w, rfl, rfl, 0, rfl, by omega, by simp⟩ ?_
    rintro t w' ⟨hk, t0, t1, i, t5, hi, he⟩
    have g1 := hk.sl h1
    have g2 := hk.sl h2
    by_cases hlt : i < l1.length
    · have hlt2 : i < l2.length := by omega
      simp only [WS, List.getElem_cons_zero, List.getElem_cons_succ, Option.isNone_some, Option.isNone_none, List.getD_cons_zero, List.getD_cons_succ, I.at, atL, atO, atP, evp, evs, retV, ↓reduceIte, Nat.reduceEqDiff, reduceCtorEq, t0, t1, t5, g1.Xlen, show decide ((i : Int) < (l1.length : Int)) = true from decide_eq_true (by omega)]
      refine WP_dops ?_
      simp only [ES, List.mem_cons, List.not_mem_nil, implies_true, forall_const, WS, List.getElem_cons_zero, List.getElem_cons_succ, Option.isNone_some, Option.isNone_none, List.getD_cons_zero, List.getD_cons_succ, I.at, atL, atO, atP, evp, evs, retV, ↓reduceIte, Nat.reduceEqDiff, reduceCtorEq, t0, t1, t5, g1.drew.Eix hlt, g1.drew.Eld hlt, g2.drew.Eix hlt2, g2.drew.Eld hlt2, cell_int]
      by_cases hx : l1[i] = l2[i]
      · simp only [WS, List.getElem_cons_zero, List.getElem_cons_succ, Option.isNone_some, Option.isNone_none, List.getD_cons_zero, List.getD_cons_succ, I.at, atL, atO, atP, evp, evs, retV, ↓reduceIte, Nat.reduceEqDiff, reduceCtorEq, t0, t1, t5, decide_eq_true hx, wrap_id (show -9223372036854775808 ≤ (i : Int) + 1 by omega) (show (i : Int) + 1 < 9223372036854775808 by omega), toI_int]
        refine ⟨⟨hk.trans (Like.drew _), i + 1, rfl, by omega, ?_⟩, by omega⟩
        rw [List.take_add_one, List.take_add_one, he, List.getElem?_eq_getElem hlt, List.getElem?_eq_getElem hlt2, hx]
      · have : ¬ l1 = l2 := fun e => hx (by subst e; rfl)
        simp only [WS, List.getElem_cons_zero, List.getElem_cons_succ, Option.isNone_some, Option.isNone_none, List.getD_cons_zero, List.getD_cons_succ, I.at, atL, atO, atP, evp, evs, retV, ↓reduceIte, Nat.reduceEqDiff, reduceCtorEq, t0, t1, t5, decide_eq_false hx, decide_eq_false this]
        exact hk.trans (Like.drew _)
    · rw [List.take_of_length_le (by omega), List.take_of_length_le (by omega)] at he
      simp only [WS, List.getElem_cons_zero, List.getElem_cons_succ, Option.isNone_some, Option.isNone_none, List.getD_cons_zero, List.getD_cons_succ, I.at, atL, atO, atP, evp, evs, retV, ↓reduceIte, Nat.reduceEqDiff, reduceCtorEq, t0, t1, t5, g1.Xlen, show decide ((i : Int) < (l1.length : Int)) = false from decide_eq_false (by omega), decide_eq_true he]
      exact hk
  · have : ¬ l1 = l2 := fun e => hl (by rw [e])
    simp only [WS, List.getElem_cons_zero, List.getElem_cons_succ, Option.isNone_some, Option.isNone_none, List.getD_cons_zero, List.getD_cons_succ, I.at, atL, atO, atP, evp, evs, retV, ↓reduceIte, Nat.reduceEqDiff, reduceCtorEq, show decide ((l1.length : Int) = (l2.length : Int)) = false from decide_eq_false (by omega), decide_eq_false this]
    exact Like.refl w
end Go.Proofs.Ytbaljbadlfopgaa.Fw
