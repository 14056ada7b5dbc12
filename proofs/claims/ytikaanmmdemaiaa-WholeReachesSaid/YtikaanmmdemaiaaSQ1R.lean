import Derived.Test.YtikaanmmdemaiaaProg
import Derived.Test.YtikaanmmdemaiaaFwTR
import Derived.Test.YtikaanmmdemaiaaSQaR
import Derived.Test.YtikaanmmdemaiaaGfWR
set_option linter.all false
set_option linter.unusedVariables false
set_option linter.unusedSimpArgs false
set_option maxRecDepth 100000
set_option maxHeartbeats 1000000
namespace Go.Proofs.Ytikaanmmdemaiaa.Fw
open Go Go.Fw Go.Proofs
attribute [local irreducible] stepI
def c_afft_power : C := .seq (.ops [⟨0, (some 2), none, .mov (.c (.bool false)), []⟩]) (.seq (.ops [⟨0, (some 3), none, .mov (.t 0), []⟩, ⟨1, (some 4), none, .bin .geq (.t 3) (.c (.int .i64 1)), []⟩, ⟨2, (some 5), none, .mov (.t 4), []⟩, ⟨3, (some 6), (some (5, true)), .mov (.t 0), []⟩, ⟨4, (some 7), (some (5, true)), .bin .leq (.t 6) (.c (.int .i64 65536)), []⟩, ⟨5, (some 8), none, .pick (.t 5) (.t 7) (.c (.bool false)), []⟩, ⟨6, (some 9), none, .mov (.t 8), []⟩, ⟨7, (some 10), (some (9, true)), .mov (.t 0), []⟩, ⟨8, (some 11), (some (9, true)), .mov (.t 0), []⟩, ⟨9, (some 12), (some (9, true)), .bin .sub (.t 11) (.c (.int .i64 1)), []⟩, ⟨10, (some 13), (some (9, true)), .bin .and (.t 10) (.t 12), []⟩, ⟨11, (some 14), (some (9, true)), .bin .eql (.t 13) (.c (.int .i64 0)), []⟩, ⟨12, (some 15), none, .pick (.t 9) (.t 14) (.c (.bool false)), []⟩, ⟨13, (some 2), none, .mov (.t 15), []⟩]) .ret)
attribute [irreducible] c_afft_power
theorem run_afft_power {args : List Value} {w : World} {K : Value → World → Prop} (hn : args.length ≤ 16) (h : WP Try.prog c_afft_power (endQ [.t 2] K) (initT args) w) : CallV Try.prog 28 args w K :=
  call_of follows Try.func28 (by kernel_rfl) (by kernel_rfl) hn h
def c_afft_begins : C := .seq (.ops [⟨0, (some 6), none, .mov (.c (.bool false)), []⟩]) (.seq (.ops [⟨0, (some 7), none, .mov (.t 0), []⟩, ⟨1, (some 8), none, .bin .geq (.t 7) (.c (.int .i64 0)), []⟩, ⟨2, (some 9), none, .mov (.t 8), []⟩, ⟨3, (some 10), (some (9, true)), .mov (.t 2), []⟩, ⟨4, (some 11), (some (9, true)), .bin .leq (.t 10) (.c (.int .i64 65536)), []⟩, ⟨5, (some 12), none, .pick (.t 9) (.t 11) (.c (.bool false)), []⟩, ⟨6, (some 13), none, .mov (.t 12), []⟩, ⟨7, (some 14), (some (13, true)), .mov (.t 0), []⟩, ⟨8, (some 15), (some (13, true)), .mov (.t 2), []⟩, ⟨9, (some 16), (some (13, true)), .bin .sub (.c (.int .i64 65536)) (.t 15), []⟩, ⟨10, (some 17), (some (13, true)), .bin .leq (.t 14) (.t 16), []⟩, ⟨11, (some 18), none, .pick (.t 13) (.t 17) (.c (.bool false)), []⟩, ⟨12, (some 19), none, .mov (.t 18), []⟩, ⟨13, (some 20), (some (19, true)), .mov (.t 0), []⟩, ⟨14, (some 21), (some (19, true)), .mov (.t 1), []⟩, ⟨15, (some 22), (some (19, true)), .bin .rem (.t 20) (.t 21), []⟩, ⟨16, (some 23), (some (19, true)), .bin .eql (.t 22) (.c (.int .i64 0)), []⟩, ⟨17, (some 24), none, .pick (.t 19) (.t 23) (.c (.bool false)), []⟩, ⟨18, (some 6), none, .mov (.t 24), []⟩]) .ret)
attribute [irreducible] c_afft_begins
theorem run_afft_begins {args : List Value} {w : World} {K : Value → World → Prop} (hn : args.length ≤ 25) (h : WP Try.prog c_afft_begins (endQ [.t 6] K) (initT args) w) : CallV Try.prog 29 args w K :=
  call_of follows Try.func29 (by kernel_rfl) (by kernel_rfl) hn h
def c_afft_skew : C := .seq (.ops [⟨0, (some 4), none, .mov (.c (.int .u16 0)), []⟩]) (.seq (.ops [⟨0, (some 8), none, .mov (.t 0), []⟩, ⟨1, (some 9), none, .mov (.t 1), []⟩, ⟨2, (some 10), none, .call (.c (.func (.func 18) #[] #[])) [.t 8, .t 9], []⟩, ⟨3, (some 7), none, .mov (.t 10), []⟩, ⟨4, (some 11), none, .ext (.t 7) 0, []⟩, ⟨5, (some 12), none, .ext (.t 7) 1, []⟩, ⟨6, (some 5), none, .mov (.t 11), []⟩, ⟨7, (some 6), none, .mov (.t 12), []⟩]) (.seq (.ops [⟨0, (some 13), none, .mov (.t 5), []⟩, ⟨1, (some 4), none, .mov (.t 13), []⟩]) .ret))
attribute [irreducible] c_afft_skew
theorem run_afft_skew {args : List Value} {w : World} {K : Value → World → Prop} (hn : args.length ≤ 14) (h : WP Try.prog c_afft_skew (endQ [.t 4] K) (initT args) w) : CallV Try.prog 31 args w K :=
  call_of follows Try.func31 (by kernel_rfl) (by kernel_rfl) hn h
def c_afft_levels : C := .seq (.ops [⟨0, (some 2), none, .mov (.c (.int .i64 0)), []⟩]) (.seq (.ops [⟨0, (some 3), none, .mov (.c (.int .i64 (-1))), []⟩]) (.seq (.block 0 (.loop (.seq (.seq (.ops [⟨0, (some 4), none, .mov (.t 0), []⟩, ⟨1, (some 5), none, .bin .gtr (.t 4) (.c (.int .i64 1)), []⟩]) (.ite (.t 5) .skip (.exit 0))) (.seq (.block 1 (.ops [⟨0, (some 8), none, .mov (.t 3), []⟩, ⟨1, (some 9), none, .bin .add (.t 8) (.c (.int .i64 1)), []⟩, ⟨2, (some 3), none, .mov (.t 9), []⟩])) (.ops [⟨0, (some 6), none, .mov (.t 0), []⟩, ⟨1, (some 7), none, .bin .quo (.t 6) (.c (.int .i64 2)), []⟩, ⟨2, (some 0), none, .mov (.t 7), []⟩]))))) (.seq (.ops [⟨0, (some 10), none, .mov (.t 3), []⟩, ⟨1, (some 2), none, .mov (.t 10), []⟩]) .ret)))
attribute [irreducible] c_afft_levels
theorem run_afft_levels {args : List Value} {w : World} {K : Value → World → Prop} (hn : args.length ≤ 11) (h : WP Try.prog c_afft_levels (endQ [.t 2] K) (initT args) w) : CallV Try.prog 32 args w K :=
  call_of follows Try.func32 (by kernel_rfl) (by kernel_rfl) hn h
end Go.Proofs.Ytikaanmmdemaiaa.Fw
namespace Go.Proofs.Ytikaanmmdemaiaa.Fw
open Go Go.Fw
theorem and_pred (n : Nat) (h : n ≤ 65536) (h1 : 1 ≤ n) : bitsOp .and .i64 (n : Int) ((n - 1 : Nat) : Int) = ((n &&& (n - 1) : Nat) : Int) := bits_and fits_i64 (by omega) (by omega)
theorem afft_power_spec (w : World) (n : Int) : CallV Try.prog 28 [.int .i64 n] w fun v w' => v = .bool (isP n) ∧ w' = w := by
  refine run_afft_power (by simp) ?_
  simp only [c_afft_power, WS, List.getElem_cons_zero, List.getElem_cons_succ, Option.isNone_some, Option.isNone_none, List.getD_cons_zero, List.getD_cons_succ, I.at, atL, atO, atP, evp, evs, retV, ↓reduceIte, Nat.reduceEqDiff, reduceCtorEq]
  unfold isP
  by_cases h1 : 1 ≤ n
  · obtain ⟨n, rfl⟩ : ∃ m : Nat, n = (m : Int) := ⟨n.toNat, by omega⟩
    by_cases h2 : n ≤ 65536
    · have e : decide (((n &&& (n - 1) : Nat) : Int) = 0) = decide (1 ≤ (n : Int) ∧ (n : Int) ≤ 65536 ∧ (n : Int).toNat &&& ((n : Int).toNat - 1) = 0) := by
        rw [Int.toNat_natCast]
        exact decide_eq_decide.2 ⟨fun h => ⟨h1, by omega, by omega⟩, fun h => by omega⟩
      rw [← e]
      simp (maxSteps := 1000000) (disch := omega) only [WS, List.getElem_cons_zero, List.getElem_cons_succ, Option.isNone_some, Option.isNone_none, List.getD_cons_zero, List.getD_cons_succ, I.at, atL, atO, atP, evp, evs, retV, ↓reduceIte, Nat.reduceEqDiff, reduceCtorEq, AS, and_pred n h2 (by omega)]
    · simp (maxSteps := 1000000) (disch := omega) only [WS, List.getElem_cons_zero, List.getElem_cons_succ, Option.isNone_some, Option.isNone_none, List.getD_cons_zero, List.getD_cons_succ, I.at, atL, atO, atP, evp, evs, retV, ↓reduceIte, Nat.reduceEqDiff, reduceCtorEq, AS]
  · simp (maxSteps := 1000000) (disch := omega) only [WS, List.getElem_cons_zero, List.getElem_cons_succ, Option.isNone_some, Option.isNone_none, List.getD_cons_zero, List.getD_cons_succ, I.at, atL, atO, atP, evp, evs, retV, ↓reduceIte, Nat.reduceEqDiff, reduceCtorEq, AS]
/-- Does a coset of n begin at a, with len points from there on? -/
def isC (a : Int) (n len : Nat) : Bool := decide (0 ≤ a ∧ len ≤ 65536 ∧ a ≤ 65536 - (len : Int) ∧ a.toNat % n = 0)
theorem afft_begins_spec (w : World) (a : Int) (n len : Nat) (hn : n ≠ 0) : CallV Try.prog 29 [.int .i64 a, .int .i64 (n : Int), .int .i64 (len : Int)] w fun v w' => v = .bool (isC a n len) ∧ w' = w := by
  refine run_afft_begins (by simp) ?_
  simp only [c_afft_begins, WS, List.getElem_cons_zero, List.getElem_cons_succ, Option.isNone_some, Option.isNone_none, List.getD_cons_zero, List.getD_cons_succ, I.at, atL, atO, atP, evp, evs, retV, ↓reduceIte, Nat.reduceEqDiff, reduceCtorEq]
  unfold isC
  by_cases h1 : 0 ≤ a
  · obtain ⟨a, rfl⟩ : ∃ m : Nat, a = (m : Int) := ⟨a.toNat, by omega⟩
    by_cases h2 : len ≤ 65536
    · have e1 : IntKind.i64.wrap (65536 - (len : Int)) = ((65536 - len : Nat) : Int) := by rw [wrap_id (by omega) (by omega)]; omega
      by_cases h3 : a ≤ 65536 - len
      · have e : decide (((a % n : Nat) : Int) = 0) = decide (0 ≤ (a : Int) ∧ len ≤ 65536 ∧ (a : Int) ≤ 65536 - (len : Int) ∧ (a : Int).toNat % n = 0) := by
          rw [Int.toNat_natCast]
          exact decide_eq_decide.2 ⟨fun h => ⟨h1, by omega, by omega, by omega⟩, fun h => by omega⟩
        rw [← e]
        have hn' : ((n : Int) ≠ 0) = True := eq_true (by omega)
        simp (maxSteps := 1000000) (disch := omega) only [WS, List.getElem_cons_zero, List.getElem_cons_succ, Option.isNone_some, Option.isNone_none, List.getD_cons_zero, List.getD_cons_succ, I.at, atL, atO, atP, evp, evs, retV, ↓reduceIte, Nat.reduceEqDiff, reduceCtorEq, AS, e1, X_rem, hn', tmod_nat]
      · simp (maxSteps := 1000000) (disch := omega) only [WS, List.getElem_cons_zero, List.getElem_cons_succ, Option.isNone_some, Option.isNone_none, List.getD_cons_zero, List.getD_cons_succ, I.at, atL, atO, atP, evp, evs, retV, ↓reduceIte, Nat.reduceEqDiff, reduceCtorEq, AS, e1]
    · simp (maxSteps := 1000000) (disch := omega) only [WS, List.getElem_cons_zero, List.getElem_cons_succ, Option.isNone_some, Option.isNone_none, List.getD_cons_zero, List.getD_cons_succ, I.at, atL, atO, atP, evp, evs, retV, ↓reduceIte, Nat.reduceEqDiff, reduceCtorEq, AS]
  · simp (maxSteps := 1000000) (disch := omega) only [WS, List.getElem_cons_zero, List.getElem_cons_succ, Option.isNone_some, Option.isNone_none, List.getD_cons_zero, List.getD_cons_succ, I.at, atL, atO, atP, evp, evs, retV, ↓reduceIte, Nat.reduceEqDiff, reduceCtorEq, AS]
theorem afft_levels_spec (w : World) (k : Nat) (hk : k ≤ 16) : CallV Try.prog 32 [.int .i64 ((2 ^ k : Nat) : Int)] w fun v w' => v = .int .i64 ((k : Int) - 1) ∧ w' = w := by
  refine run_afft_levels (by simp) ?_
  simp only [c_afft_levels, WS, List.getElem_cons_zero, List.getElem_cons_succ, Option.isNone_some, Option.isNone_none, List.getD_cons_zero, List.getD_cons_succ, I.at, atL, atO, atP, evp, evs, retV, ↓reduceIte, Nat.reduceEqDiff, reduceCtorEq]
  refine loop_of (fun t w' => w' = w ∧ ∃ j : Nat, t 0 = .int .i64 ((2 ^ j : Nat) : Int) ∧ j ≤ k ∧ t 3 = .int .i64 ((k : Int) - 1 - (j : Int))) (fun t _ => (toI (t 0)).toNat) ⟨rfl, k, by simp only [WS, List.getElem_cons_zero, List.getElem_cons_succ, Option.isNone_some, Option.isNone_none, List.getD_cons_zero, List.getD_cons_succ, I.at, atL, atO, atP, evp, evs, retV, ↓reduceIte, Nat.reduceEqDiff, reduceCtorEq], by omega, by rw [show (k : Int) - 1 - (k : Int) = -1 by omega]; simp only [WS, List.getElem_cons_zero, List.getElem_cons_succ, Option.isNone_some, Option.isNone_none, List.getD_cons_zero, List.getD_cons_succ, I.at, atL, atO, atP, evp, evs, retV, ↓reduceIte, Nat.reduceEqDiff, reduceCtorEq]⟩ ?_
  rintro t w' ⟨rfl, j, t0, hj, t3⟩
  have hp := Nat.two_pow_pos j
  cases j with
  | zero =>
    simp (maxSteps := 1000000) (disch := omega) only [WS, List.getElem_cons_zero, List.getElem_cons_succ, Option.isNone_some, Option.isNone_none, List.getD_cons_zero, List.getD_cons_succ, I.at, atL, atO, atP, evp, evs, retV, ↓reduceIte, Nat.reduceEqDiff, reduceCtorEq, AS, t0, t3, show decide ((1 : Int) < ((2 ^ 0 : Nat) : Int)) = false from rfl]
    rw [show (k : Int) - 1 - ((0 : Nat) : Int) = (k : Int) - 1 by omega]
  | succ j =>
    have hp2 : 2 ^ (j + 1) = 2 ^ j * 2 := Nat.pow_succ 2 j
    have hp3 := Nat.two_pow_pos j
    have hp4 : 2 ^ (j + 1) ≤ 2 ^ 16 := Nat.pow_le_pow_right (by omega) (by omega)
    have e2 : IntKind.i64.wrap (((2 ^ (j + 1) : Nat) : Int).tdiv 2) = ((2 ^ j : Nat) : Int) := by
      rw [show (2 : Int) = ((2 : Nat) : Int) from rfl, tdiv_nat, hp2, Nat.mul_div_cancel _ (by omega), wrap_64 _ (by omega)]
    have e3 : IntKind.i64.wrap ((k : Int) - 1 - ((j + 1 : Nat) : Int) + 1) = (k : Int) - 1 - (j : Int) := by rw [wrap_id (by omega) (by omega)]; omega
    simp (maxSteps := 1000000) (disch := omega) only [WS, List.getElem_cons_zero, List.getElem_cons_succ, Option.isNone_some, Option.isNone_none, List.getD_cons_zero, List.getD_cons_succ, I.at, atL, atO, atP, evp, evs, retV, ↓reduceIte, Nat.reduceEqDiff, reduceCtorEq, AS, t0, t3, X_quo, e2, e3, show ((2 : Int) ≠ 0) = True from eq_true (by decide)]
    refine ⟨⟨j, rfl, by omega, rfl⟩, ?_⟩
    simp only [Int.toNat_natCast]
    omega
theorem afft_skew_spec (w : World) (t j : Nat) (ht : t ≤ 16) (hj : j < 65536) : CallV Try.prog 31 [.int .i64 (t : Int), .int .i64 (j : Int)] w fun v w' => v = .int .u16 ((wel (j >>> t)).v.toNat : Int) ∧ RowKit.Below w.heap.size w w' := by
  refine run_afft_skew (by simp) ?_
  simp only [c_afft_skew, WS, List.getElem_cons_zero, List.getElem_cons_succ, Option.isNone_some, Option.isNone_none, List.getD_cons_zero, List.getD_cons_succ, I.at, atL, atO, atP, evp, evs, retV, ↓reduceIte, Nat.reduceEqDiff, reduceCtorEq]
  refine X_call0 ((lch_Skew_spec w t j).mono ?_)
  rintro _ w1 ⟨hB, ⟨-, -, -, -, rfl⟩ | ⟨hn, -⟩ | ⟨-, -, hn, -⟩⟩
  · simp (maxSteps := 1000000) (disch := omega) only [WS, List.getElem_cons_zero, List.getElem_cons_succ, Option.isNone_some, Option.isNone_none, List.getD_cons_zero, List.getD_cons_succ, I.at, atL, atO, atP, evp, evs, retV, ↓reduceIte, Nat.reduceEqDiff, reduceCtorEq, AS, Int.toNat_natCast]
    exact hB
  · exact absurd ⟨by omega, by omega⟩ hn
  · exact absurd ⟨by omega, by omega⟩ hn
end Go.Proofs.Ytikaanmmdemaiaa.Fw
