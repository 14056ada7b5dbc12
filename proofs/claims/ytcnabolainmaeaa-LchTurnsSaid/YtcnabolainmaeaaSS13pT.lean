import Derived.Test.YtcnabolainmaeaaProg
import Derived.Test.YtcnabolainmaeaaFwTT
import Derived.Test.YtcnabolainmaeaaSS13oT
import Derived.Test.YtcnabolainmaeaaSS13eT
set_option linter.all false
set_option linter.unusedVariables false
set_option linter.unusedSimpArgs false
set_option maxRecDepth 100000
set_option maxHeartbeats 1000000
namespace Go.Proofs.Ytcnabolainmaeaa.Fw
open Go Go.Fw Go.Proofs
attribute [local irreducible] stepI
def c_culletref13_power : C := .seq (.ops [⟨0, (some 4), none, .mov (.c (.bool false)), []⟩]) (.seq (.seq (.ops [⟨0, (some 5), none, .mov (.c (.int .i64 1)), []⟩]) (.block 0 (.loop (.seq (.seq (.ops [⟨0, (some 6), none, .mov (.t 5), []⟩, ⟨1, (some 7), none, .mov (.t 1), []⟩, ⟨2, (some 8), none, .bin .leq (.t 6) (.t 7), []⟩]) (.ite (.t 8) .skip (.exit 0))) (.seq (.block 1 (.seq (.ops [⟨0, (some 11), none, .mov (.t 0), []⟩, ⟨1, (some 12), none, .mov (.t 5), []⟩, ⟨2, (some 13), none, .bin .eql (.t 11) (.t 12), []⟩]) (.ite (.t 13) (.seq (.ops [⟨0, (some 4), none, .mov (.c (.bool true)), []⟩]) .ret) .skip))) (.ops [⟨0, (some 9), none, .mov (.t 5), []⟩, ⟨1, (some 10), none, .bin .mul (.c (.int .i64 2)) (.t 9), []⟩, ⟨2, (some 5), none, .mov (.t 10), []⟩])))))) (.seq (.ops [⟨0, (some 4), none, .mov (.c (.bool false)), []⟩]) .ret))
attribute [irreducible] c_culletref13_power
theorem run_culletref13_power {args : List Value} {w : World} {K : Value → World → Prop} (hn : args.length ≤ 14) (h : WP Try.prog c_culletref13_power (endQ [.t 4] K) (initT args) w) : CallV Try.prog 63 args w K :=
  call_of follows Try.func63 (by kernel_rfl) (by kernel_rfl) hn h
end Go.Proofs.Ytcnabolainmaeaa.Fw
namespace Go.Proofs.Ytcnabolainmaeaa.Fw
open Go Go.Fw
theorem culletref13_power_spec (w : World) (n K : Nat) (hK : K ≤ 16) (hn : n ≤ 70368744175616) : CallV Try.prog 63 [.int .i64 (n : Int), .int .i64 ((2 ^ K : Nat) : Int)] w fun v w' => v = .bool (decide (1 ≤ n ∧ n ≤ 2 ^ K ∧ n &&& (n - 1) = 0)) ∧ w' = w := by
  refine run_culletref13_power (by simp) ?_
  simp only [c_culletref13_power, WS, List.getElem_cons_zero, List.getElem_cons_succ, Option.isNone_some, Option.isNone_none, List.getD_cons_zero, List.getD_cons_succ, I.at, atL, atO, atP, evp, evs, retV, ↓reduceIte, Nat.reduceEqDiff, reduceCtorEq]
  have hK16 := pow_le16' hK
  refine loop_of (fun t w' => w' = w ∧ t 0 = .int .i64 (n : Int) ∧ t 1 = .int .i64 ((2 ^ K : Nat) : Int) ∧ ∃ i : Nat, t 5 = .int .i64 ((2 ^ i : Nat) : Int) ∧ i ≤ K + 1 ∧ ∀ j, j < i → n ≠ 2 ^ j) (fun t _ => 2 ^ (K + 1) + 1 - (toI (t 5)).toNat) ⟨rfl, by simp only [WS, List.getElem_cons_zero, List.getElem_cons_succ, Option.isNone_some, Option.isNone_none, List.getD_cons_zero, List.getD_cons_succ, I.at, atL, atO, atP, evp, evs, retV, ↓reduceIte, Nat.reduceEqDiff, reduceCtorEq], by simp only [WS, List.getElem_cons_zero, List.getElem_cons_succ, Option.isNone_some, Option.isNone_none, List.getD_cons_zero, List.getD_cons_succ, I.at, atL, atO, atP, evp, evs, retV, ↓reduceIte, Nat.reduceEqDiff, reduceCtorEq], 0, rfl, by omega, fun j hj => by omega⟩ ?_
  rintro t w' ⟨rfl, t0, t1, i, t5, hi, hne⟩
  have hi0 := Nat.two_pow_pos i
  by_cases hik : i ≤ K
  · have h1 : 2 ^ i ≤ 2 ^ K := Nat.pow_le_pow_right (by omega) hik
    have hp : 2 ^ (i + 1) = 2 * 2 ^ i := by rw [Nat.pow_succ, Nat.mul_comm]
    have hpK : 2 ^ (K + 1) = 2 * 2 ^ K := by rw [Nat.pow_succ, Nat.mul_comm]
    have e1 : IntKind.i64.wrap (2 * ((2 ^ i : Nat) : Int)) = ((2 ^ (i + 1) : Nat) : Int) := by rw [hp]; exact wrap_64 (2 * 2 ^ i) (by omega)
    by_cases hn2 : n = 2 ^ i
    · have hd : decide (1 ≤ n ∧ n ≤ 2 ^ K ∧ n &&& (n - 1) = 0) = true := decide_eq_true ⟨by omega, by omega, by rw [hn2]; exact and_pred_pow i⟩
      have d1 : ((n : Int) = ((2 ^ i : Nat) : Int)) := by omega
      simp (maxSteps := 1000000) (disch := omega) only [WS, List.getElem_cons_zero, List.getElem_cons_succ, Option.isNone_some, Option.isNone_none, List.getD_cons_zero, List.getD_cons_succ, I.at, atL, atO, atP, evp, evs, retV, ↓reduceIte, Nat.reduceEqDiff, reduceCtorEq, AS, t0, t1, t5, hd, decide_eq_true d1]
    · have d1 : ¬ ((n : Int) = ((2 ^ i : Nat) : Int)) := by omega
      simp (maxSteps := 1000000) (disch := omega) only [WS, List.getElem_cons_zero, List.getElem_cons_succ, Option.isNone_some, Option.isNone_none, List.getD_cons_zero, List.getD_cons_succ, I.at, atL, atO, atP, evp, evs, retV, ↓reduceIte, Nat.reduceEqDiff, reduceCtorEq, AS, t0, t1, t5, decide_eq_false d1, e1]
      exact ⟨⟨i + 1, rfl, by omega, fun j hj => by
        by_cases hji : j = i
        · rw [hji]; exact hn2
        · exact hne j (by omega)⟩, by simp only [Int.toNat_natCast]; omega⟩
  · obtain rfl : i = K + 1 := by omega
    have hp : 2 ^ (K + 1) = 2 * 2 ^ K := by rw [Nat.pow_succ, Nat.mul_comm]
    have hK0 := Nat.two_pow_pos K
    have hd : decide (1 ≤ n ∧ n ≤ 2 ^ K ∧ n &&& (n - 1) = 0) = false := decide_eq_false fun ⟨a1, a2, a3⟩ => by
      obtain ⟨k, hk⟩ := pow_of_and n n (Nat.le_refl _) (by omega) a3
      refine hne k ?_ hk
      rcases Nat.lt_or_ge k (K + 1) with h | h
      · exact h
      · have := Nat.pow_le_pow_right (show 0 < 2 by omega) h; omega
    simp (maxSteps := 1000000) (disch := omega) only [WS, List.getElem_cons_zero, List.getElem_cons_succ, Option.isNone_some, Option.isNone_none, List.getD_cons_zero, List.getD_cons_succ, I.at, atL, atO, atP, evp, evs, retV, ↓reduceIte, Nat.reduceEqDiff, reduceCtorEq, AS, t0, t1, t5, hd]
end Go.Proofs.Ytcnabolainmaeaa.Fw
