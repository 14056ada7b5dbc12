import Derived.Test.YtcnabolainmaeaaProg
import Derived.Test.YtcnabolainmaeaaFwTL
import Derived.Test.YtcnabolainmaeaaSS13mL
set_option linter.all false
set_option linter.unusedVariables false
set_option linter.unusedSimpArgs false
set_option maxRecDepth 100000
set_option maxHeartbeats 1000000
namespace Go.Proofs.Ytcnabolainmaeaa.Fw
open Go Go.Fw Go.Proofs
attribute [local irreducible] stepI
def c_culletref13_vanish : C := .seq (.ops [⟨0, (some 4), none, .mov (.c (.int .u16 0)), []⟩]) (.seq (.ops [⟨0, (some 8), none, .mov (.t 0), []⟩, ⟨1, (some 9), none, .call (.c (.func (.func 66) #[] #[])) [.t 8], []⟩, ⟨2, (some 5), none, .mov (.t 9), []⟩]) (.seq (.ops [⟨0, (some 6), none, .mov (.c (.int .u16 1)), []⟩]) (.seq (.seq (.ops [⟨0, (some 7), none, .mov (.c (.int .i64 0)), []⟩]) (.block 0 (.loop (.seq (.seq (.ops [⟨0, (some 10), none, .mov (.t 7), []⟩, ⟨1, (some 11), none, .mov (.t 5), []⟩, ⟨2, (some 12), none, .len (.t 11), []⟩, ⟨3, (some 13), none, .bin .lss (.t 10) (.t 12), []⟩]) (.ite (.t 13) .skip (.exit 0))) (.seq (.block 1 (.seq (.seq (.ops [⟨0, (some 16), none, .mov (.t 6), []⟩, ⟨1, (some 17), none, .bin .eql (.t 16) (.c (.int .u16 0)), []⟩]) (.ite (.t 17) (.seq (.ops [⟨0, (some 4), none, .mov (.c (.int .u16 0)), []⟩]) .ret) .skip)) (.ops [⟨0, (some 18), none, .mov (.t 6), []⟩, ⟨1, (some 19), none, .mov (.t 1), []⟩, ⟨2, (some 20), none, .mov (.t 5), []⟩, ⟨3, (some 21), none, .mov (.t 7), []⟩, ⟨4, (some 22), none, .ixs 1 (.t 20) (.t 21), []⟩, ⟨5, (some 23), none, .ld (.t 22), []⟩, ⟨6, (some 24), none, .bin .xor (.t 19) (.t 23), []⟩, ⟨7, (some 25), none, .call (.c (.func (.func 61) #[] #[])) [.t 18, .t 24], []⟩, ⟨8, (some 6), none, .mov (.t 25), []⟩]))) (.ops [⟨0, (some 14), none, .mov (.t 7), []⟩, ⟨1, (some 15), none, .bin .add (.t 14) (.c (.int .i64 1)), []⟩, ⟨2, (some 7), none, .mov (.t 15), []⟩])))))) (.seq (.ops [⟨0, (some 26), none, .mov (.t 6), []⟩, ⟨1, (some 4), none, .mov (.t 26), []⟩]) .ret))))
attribute [irreducible] c_culletref13_vanish
theorem run_culletref13_vanish {args : List Value} {w : World} {K : Value → World → Prop} (hn : args.length ≤ 27) (h : WP Try.prog c_culletref13_vanish (endQ [.t 4] K) (initT args) w) : CallV Try.prog 59 args w K :=
  call_of follows Try.func59 (by kernel_rfl) (by kernel_rfl) hn h
end Go.Proofs.Ytcnabolainmaeaa.Fw
namespace Go.Proofs.Ytcnabolainmaeaa.Fw
open Go Go.Fw
theorem pV_zero {j : Nat} {x : El 16} (h : pV j x = 0) : ∀ m, pV (j + m) x = 0
  | 0 => h
  | m + 1 => by show pV (j + m) x * _ = 0; rw [pV_zero h m, El.zero_mul]
theorem culletref13_vanish_spec (w : World) (i : Nat) (x : El 16) (hi : i ≤ 16) : CallV Try.prog 59 [.int .i64 (i : Int), .int .u16 (x.v.toNat : Int)] w fun v w' => v = .int .u16 ((sV i x).v.toNat : Int) ∧ RowKit.Below w.heap.size w w' := by
  refine run_culletref13_vanish (by simp) ?_
  simp only [c_culletref13_vanish, WS, List.getElem_cons_zero, List.getElem_cons_succ, Option.isNone_some, Option.isNone_none, List.getD_cons_zero, List.getD_cons_succ, I.at, atL, atO, atP, evp, evs, retV, ↓reduceIte, Nat.reduceEqDiff, reduceCtorEq]
  refine X_call0 ((culletref03_ElementsTo_spec w i hi).mono ?_)
  rintro se w1 ⟨oe, hB⟩
  have oe := oe.sl
  have B := hB
  clear hB
  have i16 := pow_le16' hi
  rw [← pV_sV i x hi]
  simp (maxSteps := 1000000) (disch := omega) only [WS, List.getElem_cons_zero, List.getElem_cons_succ, Option.isNone_some, Option.isNone_none, List.getD_cons_zero, List.getD_cons_succ, I.at, atL, atO, atP, evp, evs, retV, ↓reduceIte, Nat.reduceEqDiff, reduceCtorEq, AS]
  refine loop_of (fun t w' => t 1 = .int .u16 (x.v.toNat : Int) ∧ t 5 = se ∧ w' = w1 ∧ ∃ j : Nat, t 7 = .int .i64 (j : Int) ∧ j ≤ 2 ^ i ∧ t 6 = .int .u16 ((pV j x).v.toNat : Int)) (fun t _ => 2 ^ i - (toI (t 7)).toNat) ⟨by simp only [WS, List.getElem_cons_zero, List.getElem_cons_succ, Option.isNone_some, Option.isNone_none, List.getD_cons_zero, List.getD_cons_succ, I.at, atL, atO, atP, evp, evs, retV, ↓reduceIte, Nat.reduceEqDiff, reduceCtorEq], by simp only [WS, List.getElem_cons_zero, List.getElem_cons_succ, Option.isNone_some, Option.isNone_none, List.getD_cons_zero, List.getD_cons_succ, I.at, atL, atO, atP, evp, evs, retV, ↓reduceIte, Nat.reduceEqDiff, reduceCtorEq], rfl, 0, rfl, Nat.zero_le _, rfl⟩ ?_
  rintro t w2 ⟨t1, t5, rfl, j, t7, hj, t6⟩
  by_cases hji : j < 2 ^ i
  · have jl : j < (wls (2 ^ i)).length := by rw [wls_len]; exact hji
    have hg := wls_get jl
    by_cases hz : pV j x = 0
    · have d1 : decide (((pV j x).v.toNat : Int) = 0) = true := decide_eq_true ((el_zero _).mpr hz)
      have := pV_zero hz (2 ^ i - j)
      rw [show j + (2 ^ i - j) = 2 ^ i by omega] at this
      rw [this]
      simp (maxSteps := 1000000) (disch := omega) only [WS, List.getElem_cons_zero, List.getElem_cons_succ, Option.isNone_some, Option.isNone_none, List.getD_cons_zero, List.getD_cons_succ, I.at, atL, atO, atP, evp, evs, retV, ↓reduceIte, Nat.reduceEqDiff, reduceCtorEq, AS, t1, t5, t6, t7, oe.Xlen, wls_len, d1]
      exact ⟨rfl, B⟩
    · have d1 : decide (((pV j x).v.toNat : Int) = 0) = false := decide_eq_false (fun e => hz ((el_zero _).mp e))
      simp (maxSteps := 1000000) (disch := omega) only [WS, List.getElem_cons_zero, List.getElem_cons_succ, Option.isNone_some, Option.isNone_none, List.getD_cons_zero, List.getD_cons_succ, I.at, atL, atO, atP, evp, evs, retV, ↓reduceIte, Nat.reduceEqDiff, reduceCtorEq, AS, t1, t5, t6, t7, oe.Xlen, wls_len, d1, oe.Xix jl, oe.Xld jl, hg, cell_e16, xor16]
      refine X_call0 ((culletref03_Mul_spec w2 (pV j x) (x + wel j)).mono ?_)
      rintro _ w3 ⟨rfl, rfl⟩
      simp (maxSteps := 1000000) (disch := omega) only [WS, List.getElem_cons_zero, List.getElem_cons_succ, Option.isNone_some, Option.isNone_none, List.getD_cons_zero, List.getD_cons_succ, I.at, atL, atO, atP, evp, evs, retV, ↓reduceIte, Nat.reduceEqDiff, reduceCtorEq, AS, t1, t5, t6, t7]
      exact ⟨⟨j + 1, rfl, by omega, rfl⟩, by omega⟩
  · obtain rfl : j = 2 ^ i := by omega
    simp (maxSteps := 1000000) (disch := omega) only [WS, List.getElem_cons_zero, List.getElem_cons_succ, Option.isNone_some, Option.isNone_none, List.getD_cons_zero, List.getD_cons_succ, I.at, atL, atO, atP, evp, evs, retV, ↓reduceIte, Nat.reduceEqDiff, reduceCtorEq, AS, t1, t5, t6, t7, oe.Xlen, wls_len]
    exact B
end Go.Proofs.Ytcnabolainmaeaa.Fw
