import Derived.Test.YtcnabolainmaeaaProg
import Derived.Test.YtcnabolainmaeaaFwTL
import Derived.Test.YtcnabolainmaeaaSS13oL
import Derived.Test.YtcnabolainmaeaaSS13eL
set_option linter.all false
set_option linter.unusedVariables false
set_option linter.unusedSimpArgs false
set_option maxRecDepth 100000
set_option maxHeartbeats 1000000
namespace Go.Proofs.Ytcnabolainmaeaa.Fw
open Go Go.Fw Go.Proofs
attribute [local irreducible] stepI
def c_culletref13_Eval : C := .seq (.ops [⟨0, (some 4), none, .mov (.c (.int .u16 0)), []⟩, ⟨1, (some 5), none, .mov (.c (.int .i64 0)), []⟩]) (.seq (.seq (.ops [⟨0, (some 13), none, .mov (.t 0), []⟩, ⟨1, (some 14), none, .len (.t 13), []⟩, ⟨2, (some 15), none, .bin .gtr (.t 14) (.c (.int .i64 65536)), []⟩]) (.ite (.t 15) (.seq (.ops [⟨0, (some 4), none, .mov (.c (.int .u16 0)), []⟩, ⟨1, (some 5), none, .mov (.c (.int .i64 5)), []⟩]) .ret) .skip)) (.seq (.ops [⟨0, (some 16), none, .bsl 22 1 [.int .u16 0] [(0, (1, .c (.int .u16 1)))], []⟩, ⟨1, (some 6), none, .mov (.t 16), []⟩]) (.seq (.seq (.ops [⟨0, (some 7), none, .mov (.c (.int .i64 0)), []⟩]) (.block 0 (.loop (.seq (.seq (.ops [⟨0, (some 17), none, .mov (.t 6), []⟩, ⟨1, (some 18), none, .len (.t 17), []⟩, ⟨2, (some 19), none, .mov (.t 0), []⟩, ⟨3, (some 20), none, .len (.t 19), []⟩, ⟨4, (some 21), none, .bin .lss (.t 18) (.t 20), []⟩]) (.ite (.t 21) .skip (.exit 0))) (.seq (.block 1 (.seq (.ops [⟨0, (some 24), none, .mov (.t 7), []⟩, ⟨1, (some 25), none, .mov (.t 1), []⟩, ⟨2, (some 26), none, .call (.c (.func (.func 59) #[] #[])) [.t 24, .t 25], []⟩, ⟨3, (some 8), none, .mov (.t 26), []⟩]) (.seq (.ops [⟨0, (some 27), none, .mov (.t 6), []⟩, ⟨1, (some 28), none, .len (.t 27), []⟩, ⟨2, (some 9), none, .mov (.t 28), []⟩]) (.seq (.ops [⟨0, (some 10), none, .mov (.c (.int .i64 0)), []⟩]) (.block 2 (.loop (.seq (.seq (.ops [⟨0, (some 29), none, .mov (.t 10), []⟩, ⟨1, (some 30), none, .mov (.t 9), []⟩, ⟨2, (some 31), none, .bin .lss (.t 29) (.t 30), []⟩]) (.ite (.t 31) .skip (.exit 2))) (.seq (.block 3 (.ops [⟨0, (some 34), none, .mov (.t 6), []⟩, ⟨1, (some 35), none, .mov (.t 6), []⟩, ⟨2, (some 36), none, .mov (.t 10), []⟩, ⟨3, (some 37), none, .ixs 1 (.t 35) (.t 36), []⟩, ⟨4, (some 38), none, .ld (.t 37), []⟩, ⟨5, (some 39), none, .mov (.t 8), []⟩, ⟨6, (some 40), none, .call (.c (.func (.func 61) #[] #[])) [.t 38, .t 39], []⟩, ⟨7, (some 41), none, .bsl 22 1 [.int .u16 0] [(0, (1, .t 40))], []⟩, ⟨8, (some 42), none, .app 22 2 [.int .u16 0] (.t 34) (.t 41), []⟩, ⟨9, (some 6), none, .mov (.t 42), []⟩])) (.ops [⟨0, (some 32), none, .mov (.t 10), []⟩, ⟨1, (some 33), none, .bin .add (.t 32) (.c (.int .i64 1)), []⟩, ⟨2, (some 10), none, .mov (.t 33), []⟩]))))))))) (.ops [⟨0, (some 22), none, .mov (.t 7), []⟩, ⟨1, (some 23), none, .bin .add (.t 22) (.c (.int .i64 1)), []⟩, ⟨2, (some 7), none, .mov (.t 23), []⟩])))))) (.seq (.ops [⟨0, (some 11), none, .mov (.c (.int .u16 0)), []⟩]) (.seq (.seq (.ops [⟨0, (some 12), none, .mov (.c (.int .i64 0)), []⟩]) (.block 4 (.loop (.seq (.seq (.ops [⟨0, (some 43), none, .mov (.t 12), []⟩, ⟨1, (some 44), none, .mov (.t 0), []⟩, ⟨2, (some 45), none, .len (.t 44), []⟩, ⟨3, (some 46), none, .bin .lss (.t 43) (.t 45), []⟩]) (.ite (.t 46) .skip (.exit 4))) (.seq (.block 5 (.dops [⟨0, (some 49), none, .mov (.t 11), []⟩, ⟨1, (some 50), none, .mov (.t 0), []⟩, ⟨2, (some 51), none, .mov (.t 12), []⟩, ⟨3, (some 52), none, .ixs 1 (.t 50) (.t 51), []⟩, ⟨4, (some 53), none, .ld (.t 52), []⟩, ⟨5, (some 54), none, .mov (.t 6), []⟩, ⟨6, (some 55), none, .mov (.t 12), []⟩, ⟨7, (some 56), none, .ixs 1 (.t 54) (.t 55), []⟩, ⟨8, (some 57), none, .ld (.t 56), []⟩, ⟨9, (some 58), none, .call (.c (.func (.func 61) #[] #[])) [.t 53, .t 57], []⟩, ⟨10, (some 59), none, .bin .xor (.t 49) (.t 58), []⟩, ⟨11, (some 11), none, .mov (.t 59), []⟩])) (.ops [⟨0, (some 47), none, .mov (.t 12), []⟩, ⟨1, (some 48), none, .bin .add (.t 47) (.c (.int .i64 1)), []⟩, ⟨2, (some 12), none, .mov (.t 48), []⟩])))))) (.seq (.ops [⟨0, (some 60), none, .mov (.t 11), []⟩, ⟨1, (some 4), none, .mov (.t 60), []⟩, ⟨2, (some 5), none, .mov (.c (.int .i64 0)), []⟩]) .ret))))))
attribute [irreducible] c_culletref13_Eval
theorem run_culletref13_Eval {args : List Value} {w : World} {K : Value → World → Prop} (hn : args.length ≤ 61) (h : WP Try.prog c_culletref13_Eval (endQ [.t 4, .t 5] K) (initT args) w) : CallV Try.prog 51 args w K :=
  call_of follows Try.func51 (by kernel_rfl) (by kernel_rfl) hn h
def c_culletref13_Derivative : C := .seq (.ops [⟨0, (some 2), none, .mov (.c (.slice none 0 0)), []⟩, ⟨1, (some 3), none, .mov (.c (.int .i64 0)), []⟩]) (.seq (.seq (.ops [⟨0, (some 7), none, .mov (.t 0), []⟩, ⟨1, (some 8), none, .len (.t 7), []⟩, ⟨2, (some 9), none, .call (.c (.func (.func 63) #[] #[])) [.t 8, .c (.int .i64 65536)], []⟩, ⟨3, (some 10), none, .un .not (.t 9), []⟩]) (.ite (.t 10) (.seq (.ops [⟨0, (some 2), none, .mov (.c (.slice none 0 0)), []⟩, ⟨1, (some 3), none, .mov (.c (.int .i64 130)), []⟩]) .ret) .skip)) (.seq (.ops [⟨0, (some 11), none, .mov (.t 0), []⟩, ⟨1, (some 12), none, .len (.t 11), []⟩, ⟨2, (some 13), none, .mks 22 2 [.int .u16 0] (.t 12) (.t 12), []⟩, ⟨3, (some 4), none, .mov (.t 13), []⟩]) (.seq (.seq (.ops [⟨0, (some 5), none, .mov (.c (.int .i64 0)), []⟩]) (.block 0 (.loop (.seq (.seq (.ops [⟨0, (some 14), none, .mov (.t 5), []⟩, ⟨1, (some 15), none, .mov (.t 0), []⟩, ⟨2, (some 16), none, .len (.t 15), []⟩, ⟨3, (some 17), none, .bin .lss (.t 14) (.t 16), []⟩]) (.ite (.t 17) .skip (.exit 0))) (.seq (.block 1 (.seq (.ops [⟨0, (some 6), none, .mov (.c (.int .i64 0)), []⟩]) (.block 2 (.loop (.seq (.seq (.ops [⟨0, (some 20), none, .mov (.t 6), []⟩, ⟨1, (some 21), none, .bin .lss (.t 20) (.c (.int .i64 16)), []⟩]) (.ite (.t 21) .skip (.exit 2))) (.seq (.block 3 (.seq (.ops [⟨0, (some 24), none, .mov (.t 5), []⟩, ⟨1, (some 25), none, .mov (.t 6), []⟩, ⟨2, (some 26), none, .cnv .u64 (.t 25), []⟩, ⟨3, (some 27), none, .bin .shr (.t 24) (.t 26), []⟩, ⟨4, (some 28), none, .bin .and (.t 27) (.c (.int .i64 1)), []⟩, ⟨5, (some 29), none, .bin .eql (.t 28) (.c (.int .i64 0)), []⟩, ⟨6, (some 30), none, .mov (.t 29), []⟩, ⟨7, (some 31), (some (30, true)), .mov (.t 5), []⟩, ⟨8, (some 32), (some (30, true)), .mov (.t 6), []⟩, ⟨9, (some 33), (some (30, true)), .cnv .u64 (.t 32), []⟩, ⟨10, (some 34), (some (30, true)), .bin .shl (.c (.int .i64 1)) (.t 33), []⟩, ⟨11, (some 35), (some (30, true)), .bin .add (.t 31) (.t 34), []⟩, ⟨12, (some 36), (some (30, true)), .mov (.t 0), []⟩, ⟨13, (some 37), (some (30, true)), .len (.t 36), []⟩, ⟨14, (some 38), (some (30, true)), .bin .lss (.t 35) (.t 37), []⟩, ⟨15, (some 39), none, .pick (.t 30) (.t 38) (.c (.bool false)), []⟩]) (.ite (.t 39) (.dops [⟨0, (some 40), none, .mov (.t 4), []⟩, ⟨1, (some 41), none, .mov (.t 5), []⟩, ⟨2, (some 42), none, .mov (.t 4), []⟩, ⟨3, (some 43), none, .mov (.t 5), []⟩, ⟨4, (some 44), none, .ixs 1 (.t 42) (.t 43), []⟩, ⟨5, (some 45), none, .ld (.t 44), []⟩, ⟨6, (some 46), none, .mov (.t 0), []⟩, ⟨7, (some 47), none, .mov (.t 5), []⟩, ⟨8, (some 48), none, .mov (.t 6), []⟩, ⟨9, (some 49), none, .cnv .u64 (.t 48), []⟩, ⟨10, (some 50), none, .bin .shl (.c (.int .i64 1)) (.t 49), []⟩, ⟨11, (some 51), none, .bin .add (.t 47) (.t 50), []⟩, ⟨12, (some 52), none, .ixs 1 (.t 46) (.t 51), []⟩, ⟨13, (some 53), none, .ld (.t 52), []⟩, ⟨14, (some 54), none, .bin .xor (.t 45) (.t 53), []⟩, ⟨15, (some 55), none, .ixs 1 (.t 40) (.t 41), []⟩, ⟨16, none, none, .st (.t 55) (.t 54), []⟩]) .skip))) (.ops [⟨0, (some 22), none, .mov (.t 6), []⟩, ⟨1, (some 23), none, .bin .add (.t 22) (.c (.int .i64 1)), []⟩, ⟨2, (some 6), none, .mov (.t 23), []⟩]))))))) (.ops [⟨0, (some 18), none, .mov (.t 5), []⟩, ⟨1, (some 19), none, .bin .add (.t 18) (.c (.int .i64 1)), []⟩, ⟨2, (some 5), none, .mov (.t 19), []⟩])))))) (.seq (.ops [⟨0, (some 56), none, .mov (.t 4), []⟩, ⟨1, (some 2), none, .mov (.t 56), []⟩, ⟨2, (some 3), none, .mov (.c (.int .i64 0)), []⟩]) .ret))))
attribute [irreducible] c_culletref13_Derivative
theorem run_culletref13_Derivative {args : List Value} {w : World} {K : Value → World → Prop} (hn : args.length ≤ 57) (h : WP Try.prog c_culletref13_Derivative (endQ [.t 2, .t 3] K) (initT args) w) : CallV Try.prog 52 args w K :=
  call_of follows Try.func52 (by kernel_rfl) (by kernel_rfl) hn h
def c_culletref13_power : C := .seq (.ops [⟨0, (some 4), none, .mov (.c (.bool false)), []⟩]) (.seq (.seq (.ops [⟨0, (some 5), none, .mov (.c (.int .i64 1)), []⟩]) (.block 0 (.loop (.seq (.seq (.ops [⟨0, (some 6), none, .mov (.t 5), []⟩, ⟨1, (some 7), none, .mov (.t 1), []⟩, ⟨2, (some 8), none, .bin .leq (.t 6) (.t 7), []⟩]) (.ite (.t 8) .skip (.exit 0))) (.seq (.block 1 (.seq (.ops [⟨0, (some 11), none, .mov (.t 0), []⟩, ⟨1, (some 12), none, .mov (.t 5), []⟩, ⟨2, (some 13), none, .bin .eql (.t 11) (.t 12), []⟩]) (.ite (.t 13) (.seq (.ops [⟨0, (some 4), none, .mov (.c (.bool true)), []⟩]) .ret) .skip))) (.ops [⟨0, (some 9), none, .mov (.t 5), []⟩, ⟨1, (some 10), none, .bin .mul (.c (.int .i64 2)) (.t 9), []⟩, ⟨2, (some 5), none, .mov (.t 10), []⟩])))))) (.seq (.ops [⟨0, (some 4), none, .mov (.c (.bool false)), []⟩]) .ret))
attribute [irreducible] c_culletref13_power
theorem run_culletref13_power {args : List Value} {w : World} {K : Value → World → Prop} (hn : args.length ≤ 14) (h : WP Try.prog c_culletref13_power (endQ [.t 4] K) (initT args) w) : CallV Try.prog 63 args w K :=
  call_of follows Try.func63 (by kernel_rfl) (by kernel_rfl) hn h
end Go.Proofs.Ytcnabolainmaeaa.Fw
namespace Go.Proofs.Ytcnabolainmaeaa.Fw
open Go Go.Fw
theorem culletref13_power_spec (w : World) (n K : Nat) (hK : K ≤ 16) (hn : n ≤ 70368744175616) : CallV Try.prog 63 [.int .i64 (n : Int), .int .i64 ((2 ^ K : Nat) : Int)] w fun v w' => v = .bool (decide (1 ≤ n ∧ n ≤ 2 ^ K ∧ n &&& (n - 1) = 0)) ∧ w' = w := by
  refine run_culletref13_power (by simp) ?_
  simp only [c_culletref13_power, WS, List.getElem_cons_zero, List.getElem_cons_succ, Option.isNone_some, Option.isNone_none, List.getD_cons_zero, List.getD_cons_succ, I.at, atL, atO, atP, evp, evs, retV, ↓reduceIte, Nat.reduceEqDiff, reduceCtorEq]
  have hK16 := pow_le16' hK
  refine loop_of (fun t w' => w' = w ∧ t 0 = .int .i64 (n : Int) ∧ t 1 = .int .i64 ((2 ^ K : Nat) : Int) ∧ ∃ i : Nat, t 5 = .int .i64 ((2 ^ i : Nat) : Int) ∧ i ≤ K + 1 ∧ ∀ j, j < i → n ≠ 2 ^ j) (fun t _ => 2 ^ (K + 1) + 1 - (toI (t 5)).toNat) ⟨rfl, by simp only [WS, List.getElem_cons_zero, List.getElem_cons_succ, Option.isNone_some, Option.isNone_none, List.getD_cons_zero, List.getD_cons_succ, I.at, atL, atO, atP, evp, evs, retV, ↓reduceIte, Nat.reduceEqDiff, reduceCtorEq], by simp only [WS, List.getElem_cons_zero, List.getElem_cons_succ, Option.isNone_some, Option.isNone_none, List.getD_cons_zero, List.getD_cons_succ, I.at, atL, atO, atP, evp, evs, retV, ↓reduceIte, Nat.reduceEqDiff, reduceCtorEq], 0, rfl, by omega, fun j hj => by omega⟩ ?_
  rintro t w' ⟨rfl, t0, t1, i, t5, hi, hne⟩
  have hi0 := Nat.two_pow_pos i
  by_cases hik : i ≤ K
  · have h1 : 2 ^ i ≤ 2 ^ K := Nat.pow_le_pow_right (by omega) hik
    have hp : 2 ^ (i + 1) = 2 * 2 ^ i := by rw [Nat.pow_succ, Nat.mul_comm]
    have hpK : 2 ^ (K + 1) = 2 * 2 ^ K := by rw [Nat.pow_succ, Nat.mul_comm]
    have e1 : IntKind.i64.wrap (2 * ((2 ^ i : Nat) : Int)) = ((2 ^ (i + 1) : Nat) : Int) := by rw [hp]; exact wrap_64 (2 * 2 ^ i) (by omega)
    by_cases hn2 : n = 2 ^ i
    · have hd : decide (1 ≤ n ∧ n ≤ 2 ^ K ∧ n &&& (n - 1) = 0) = true := decide_eq_true ⟨by omega, by omega, by rw [hn2]; exact and_pred_pow i⟩
      have d1 : ((n : Int) = ((2 ^ i : Nat) : Int)) := by omega
      simp (maxSteps := 1000000) (disch := omega) only [WS, List.getElem_cons_zero, List.getElem_cons_succ, Option.isNone_some, Option.isNone_none, List.getD_cons_zero, List.getD_cons_succ, I.at, atL, atO, atP, evp, evs, retV, ↓reduceIte, Nat.reduceEqDiff, reduceCtorEq, AS, t0, t1, t5, hd, decide_eq_true d1]
    · have d1 : ¬ ((n : Int) = ((2 ^ i : Nat) : Int)) := by omega
      simp (maxSteps := 1000000) (disch := omega) only [WS, List.getElem_cons_zero, List.getElem_cons_succ, Option.isNone_some, Option.isNone_none, List.getD_cons_zero, List.getD_cons_succ, I.at, atL, atO, atP, evp, evs, retV, ↓reduceIte, Nat.reduceEqDiff, reduceCtorEq, AS, t0, t1, t5, decide_eq_false d1, e1]
      exact ⟨⟨i + 1, rfl, by omega, fun j hj => by
        by_cases hji : j = i
        · rw [hji]; exact hn2
        · exact hne j (by omega)⟩, by simp only [Int.toNat_natCast]; omega⟩
  · obtain rfl : i = K + 1 := by omega
    have hp : 2 ^ (K + 1) = 2 * 2 ^ K := by rw [Nat.pow_succ, Nat.mul_comm]
    have hK0 := Nat.two_pow_pos K
    have hd : decide (1 ≤ n ∧ n ≤ 2 ^ K ∧ n &&& (n - 1) = 0) = false := decide_eq_false fun ⟨a1, a2, a3⟩ => by
      obtain ⟨k, hk⟩ := pow_of_and n n (Nat.le_refl _) (by omega) a3
      refine hne k ?_ hk
      rcases Nat.lt_or_ge k (K + 1) with h | h
      · exact h
      · have := Nat.pow_le_pow_right (show 0 < 2 by omega) h; omega
    simp (maxSteps := 1000000) (disch := omega) only [WS, List.getElem_cons_zero, List.getElem_cons_succ, Option.isNone_some, Option.isNone_none, List.getD_cons_zero, List.getD_cons_succ, I.at, atL, atO, atP, evp, evs, retV, ↓reduceIte, Nat.reduceEqDiff, reduceCtorEq, AS, t0, t1, t5, hd]
def xls (n : Nat) (x : El 16) : List (El 16) := (List.range n).map fun j => xV 16 j x
theorem xls_len (n : Nat) (x : El 16) : (xls n x).length = n := by simp [xls]
theorem xls_get {n i : Nat} {x : El 16} (h : i < (xls n x).length) : (xls n x)[i] = xV 16 i x := by simp [xls]
theorem xls_succ (n : Nat) (x : El 16) : xls n x ++ [xV 16 n x] = xls (n + 1) x := by unfold xls; rw [List.range_succ, List.map_append]; rfl
theorem xV16 {i j : Nat} (x : El 16) (hi : i < 16) (hj : j < 2 ^ i) : xV 16 (2 ^ i + j) x = xV 16 j x * sV i x := by
  have h1 : xV 16 (2 ^ i + j) x = xV (i + 1) (2 ^ i + j) x := by
    have := xV_more (i + 1) (16 - (i + 1)) (2 ^ i + j) x (by rw [Nat.pow_succ]; omega)
    rwa [show i + 1 + (16 - (i + 1)) = 16 by omega] at this
  have h2 : xV 16 j x = xV i j x := by
    have := xV_more i (16 - i) j x hj
    rwa [show i + (16 - i) = 16 by omega] at this
  rw [h1, h2, xV_top i j x hj]
theorem culletref13_Eval_spec (w : World) (s : Value) (l : List (El 16)) (x : El 16) (h : Sl w s l) (hb : l.length ≤ 70368744175616) :
    CallV Try.prog 51 [s, .int .u16 (x.v.toNat : Int)] w fun v w' => RowKit.Below w.heap.size w w' ∧ ((65536 < l.length ∧ v = .tuple #[.int .u16 0, .int .i64 5]) ∨ (l.length ≤ 65536 ∧ v = .tuple #[.int .u16 ((evX 16 l.length (co l).c x).v.toNat : Int), .int .i64 0])) := by
  refine run_culletref13_Eval (by simp) ?_
  simp only [c_culletref13_Eval, WS, List.getElem_cons_zero, List.getElem_cons_succ, Option.isNone_some, Option.isNone_none, List.getD_cons_zero, List.getD_cons_succ, I.at, atL, atO, atP, evp, evs, retV, ↓reduceIte, Nat.reduceEqDiff, reduceCtorEq]
  by_cases h1 : 65536 < l.length
  · simp (maxSteps := 1000000) (disch := omega) only [WS, List.getElem_cons_zero, List.getElem_cons_succ, Option.isNone_some, Option.isNone_none, List.getD_cons_zero, List.getD_cons_succ, I.at, atL, atO, atP, evp, evs, retV, ↓reduceIte, Nat.reduceEqDiff, reduceCtorEq, AS, h.Xlen]
    exact ⟨RowKit.Below.refl _ _, Or.inl h1⟩
  simp (maxSteps := 1000000) (disch := omega) only [WS, List.getElem_cons_zero, List.getElem_cons_succ, Option.isNone_some, Option.isNone_none, List.getD_cons_zero, List.getD_cons_succ, I.at, atL, atO, atP, evp, evs, retV, ↓reduceIte, Nat.reduceEqDiff, reduceCtorEq, AS, h.Xlen]
  refine X_bsl (zs := [(1 : El 16)]) (by rfl) (by rfl) fun sv w1 ov hB => ?_
  have B := hB
  clear hB
  simp (maxSteps := 1000000) (disch := omega) only [WS, List.getElem_cons_zero, List.getElem_cons_succ, Option.isNone_some, Option.isNone_none, List.getD_cons_zero, List.getD_cons_succ, I.at, atL, atO, atP, evp, evs, retV, ↓reduceIte, Nat.reduceEqDiff, reduceCtorEq, AS]
  refine loop_of (fun t w' => t 0 = s ∧ t 1 = .int .u16 (x.v.toNat : Int) ∧ RowKit.Below w.heap.size w w' ∧ ∃ (i : Nat) (sv : Value), t 7 = .int .i64 (i : Int) ∧ i ≤ 16 ∧ t 6 = sv ∧ Ow w.heap.size w' sv (xls (2 ^ i) x)) (fun t _ => 16 - (toI (t 7)).toNat)
    ⟨by simp only [WS, List.getElem_cons_zero, List.getElem_cons_succ, Option.isNone_some, Option.isNone_none, List.getD_cons_zero, List.getD_cons_succ, I.at, atL, atO, atP, evp, evs, retV, ↓reduceIte, Nat.reduceEqDiff, reduceCtorEq], by simp only [WS, List.getElem_cons_zero, List.getElem_cons_succ, Option.isNone_some, Option.isNone_none, List.getD_cons_zero, List.getD_cons_succ, I.at, atL, atO, atP, evp, evs, retV, ↓reduceIte, Nat.reduceEqDiff, reduceCtorEq], B, 0, sv, rfl, by omega, by simp only [WS, List.getElem_cons_zero, List.getElem_cons_succ, Option.isNone_some, Option.isNone_none, List.getD_cons_zero, List.getD_cons_succ, I.at, atL, atO, atP, evp, evs, retV, ↓reduceIte, Nat.reduceEqDiff, reduceCtorEq], by
      have : [(1 : El 16)] = xls (2 ^ 0) x := by show [(1 : El 16)] = [xV 16 0 x]; rw [xV_zero]
      rw [this] at ov; exact ov⟩ ?_
  clear B ov
  rintro t w2 ⟨t0, t1, B, i, sv, t7, hi, t6, ov⟩
  have i0 := Nat.two_pow_pos i
  have i16 := pow_le16' hi
  by_cases hlt : 2 ^ i < l.length
  · have hi16 : i < 16 := by
      rcases Nat.lt_or_ge i 16 with h | h
      · exact h
      · have := Nat.pow_le_pow_right (show 0 < 2 by omega) h; omega
    have hp : 2 ^ (i + 1) = 2 * 2 ^ i := by rw [Nat.pow_succ, Nat.mul_comm]
    simp (maxSteps := 1000000) (disch := omega) only [WS, List.getElem_cons_zero, List.getElem_cons_succ, Option.isNone_some, Option.isNone_none, List.getD_cons_zero, List.getD_cons_succ, I.at, atL, atO, atP, evp, evs, retV, ↓reduceIte, Nat.reduceEqDiff, reduceCtorEq, AS, t0, t1, t6, t7, ov.sl.Xlen, xls_len, (h.up B).Xlen]
    refine X_call0 ((culletref13_vanish_spec w2 i x (by omega)).mono ?_)
    rintro _ w3 ⟨rfl, hB⟩
    have ov := ov.up hB
    have B := B.trans (hB.mono B.size)
    clear hB
    simp (maxSteps := 1000000) (disch := omega) only [WS, List.getElem_cons_zero, List.getElem_cons_succ, Option.isNone_some, Option.isNone_none, List.getD_cons_zero, List.getD_cons_succ, I.at, atL, atO, atP, evp, evs, retV, ↓reduceIte, Nat.reduceEqDiff, reduceCtorEq, AS, t0, t1, t6, t7, ov.sl.Xlen, xls_len]
    refine loop_of (fun t w' => t 0 = s ∧ t 1 = .int .u16 (x.v.toNat : Int) ∧ t 7 = .int .i64 (i : Int) ∧ t 8 = .int .u16 ((sV i x).v.toNat : Int) ∧ t 9 = .int .i64 ((2 ^ i : Nat) : Int) ∧ RowKit.Below w.heap.size w w' ∧ ∃ (j : Nat) (sv : Value), t 10 = .int .i64 (j : Int) ∧ j ≤ 2 ^ i ∧ t 6 = sv ∧ Ow w.heap.size w' sv (xls (2 ^ i + j) x)) (fun t _ => 2 ^ i - (toI (t 10)).toNat)
      ⟨by simp only [WS, List.getElem_cons_zero, List.getElem_cons_succ, Option.isNone_some, Option.isNone_none, List.getD_cons_zero, List.getD_cons_succ, I.at, atL, atO, atP, evp, evs, retV, ↓reduceIte, Nat.reduceEqDiff, reduceCtorEq]; exact t0, by simp only [WS, List.getElem_cons_zero, List.getElem_cons_succ, Option.isNone_some, Option.isNone_none, List.getD_cons_zero, List.getD_cons_succ, I.at, atL, atO, atP, evp, evs, retV, ↓reduceIte, Nat.reduceEqDiff, reduceCtorEq]; exact t1, by simp only [WS, List.getElem_cons_zero, List.getElem_cons_succ, Option.isNone_some, Option.isNone_none, List.getD_cons_zero, List.getD_cons_succ, I.at, atL, atO, atP, evp, evs, retV, ↓reduceIte, Nat.reduceEqDiff, reduceCtorEq]; exact t7, by simp only [WS, List.getElem_cons_zero, List.getElem_cons_succ, Option.isNone_some, Option.isNone_none, List.getD_cons_zero, List.getD_cons_succ, I.at, atL, atO, atP, evp, evs, retV, ↓reduceIte, Nat.reduceEqDiff, reduceCtorEq], by simp only [WS, List.getElem_cons_zero, List.getElem_cons_succ, Option.isNone_some, Option.isNone_none, List.getD_cons_zero, List.getD_cons_succ, I.at, atL, atO, atP, evp, evs, retV, ↓reduceIte, Nat.reduceEqDiff, reduceCtorEq], B, 0, sv, rfl, by omega, by simp only [WS, List.getElem_cons_zero, List.getElem_cons_succ, Option.isNone_some, Option.isNone_none, List.getD_cons_zero, List.getD_cons_succ, I.at, atL, atO, atP, evp, evs, retV, ↓reduceIte, Nat.reduceEqDiff, reduceCtorEq]; exact t6, ov⟩ ?_
    clear t0 t1 t6 t7 B ov
    rintro t w4 ⟨t0, t1, t7, t8, t9, B, j, sv, t10, hj, t6, ov⟩
    by_cases hji : j < 2 ^ i
    · have jv : j < (xls (2 ^ i + j) x).length := by rw [xls_len]; omega
      have hg := xls_get jv
      simp (maxSteps := 1000000) (disch := omega) only [WS, List.getElem_cons_zero, List.getElem_cons_succ, Option.isNone_some, Option.isNone_none, List.getD_cons_zero, List.getD_cons_succ, I.at, atL, atO, atP, evp, evs, retV, ↓reduceIte, Nat.reduceEqDiff, reduceCtorEq, AS, t0, t1, t6, t7, t8, t9, t10, ov.sl.Xix jv, ov.sl.Xld jv, hg, cell_e16]
      refine X_call0 ((culletref03_Mul_spec w4 (xV 16 j x) (sV i x)).mono ?_)
      rintro _ w5 ⟨rfl, rfl⟩
      rw [← xV16 x hi16 hji]
      simp (maxSteps := 1000000) (disch := omega) only [WS, List.getElem_cons_zero, List.getElem_cons_succ, Option.isNone_some, Option.isNone_none, List.getD_cons_zero, List.getD_cons_succ, I.at, atL, atO, atP, evp, evs, retV, ↓reduceIte, Nat.reduceEqDiff, reduceCtorEq, AS, t0, t1, t6, t7, t8, t9, t10]
      refine X_bsl (zs := [xV 16 (2 ^ i + j) x]) (by rfl) (by rfl) fun se w6 oe hB => ?_
      have ov := ov.up hB
      have B := B.trans (hB.mono B.size)
      clear hB
      simp (maxSteps := 1000000) (disch := omega) only [WS, List.getElem_cons_zero, List.getElem_cons_succ, Option.isNone_some, Option.isNone_none, List.getD_cons_zero, List.getD_cons_succ, I.at, atL, atO, atP, evp, evs, retV, ↓reduceIte, Nat.reduceEqDiff, reduceCtorEq, AS, t0, t1, t6, t7, t8, t9, t10]
      refine ov.Xapp oe.sl B.size (by rw [xls_len]; simp only [List.length_singleton, maxBytes]; omega) (by rw [xls_len]; simp only [List.length_singleton]; omega) fun s7 w7 o7 hg hn => ?_
      rw [xls_succ] at o7
      simp (maxSteps := 1000000) (disch := omega) only [WS, List.getElem_cons_zero, List.getElem_cons_succ, Option.isNone_some, Option.isNone_none, List.getD_cons_zero, List.getD_cons_succ, I.at, atL, atO, atP, evp, evs, retV, ↓reduceIte, Nat.reduceEqDiff, reduceCtorEq, AS, t0, t1, t6, t7, t8, t9, t10]
      exact ⟨⟨B.grown hg B.size fun b hb => (ov.blk b hb).1, j + 1, s7, rfl, by omega, rfl, o7⟩, by omega⟩
    · obtain rfl : j = 2 ^ i := by omega
      simp (maxSteps := 1000000) (disch := omega) only [WS, List.getElem_cons_zero, List.getElem_cons_succ, Option.isNone_some, Option.isNone_none, List.getD_cons_zero, List.getD_cons_succ, I.at, atL, atO, atP, evp, evs, retV, ↓reduceIte, Nat.reduceEqDiff, reduceCtorEq, AS, t0, t1, t6, t7, t8, t9, t10]
      exact ⟨⟨B, i + 1, sv, rfl, by omega, rfl, by rw [hp, Nat.two_mul]; exact ov⟩, by omega⟩
  · simp (maxSteps := 1000000) (disch := omega) only [WS, List.getElem_cons_zero, List.getElem_cons_succ, Option.isNone_some, Option.isNone_none, List.getD_cons_zero, List.getD_cons_succ, I.at, atL, atO, atP, evp, evs, retV, ↓reduceIte, Nat.reduceEqDiff, reduceCtorEq, AS, t0, t1, t6, t7, ov.sl.Xlen, xls_len, (h.up B).Xlen]
    have ov := ov.sl
    refine loop_of (fun t w' => t 0 = s ∧ t 6 = sv ∧ RowKit.Below w.heap.size w w' ∧ Sl w' sv (xls (2 ^ i) x) ∧ ∃ j : Nat, t 12 = .int .i64 (j : Int) ∧ j ≤ l.length ∧ t 11 = .int .u16 ((evX 16 j (co l).c x).v.toNat : Int)) (fun t _ => l.length - (toI (t 12)).toNat)
      ⟨by simp only [WS, List.getElem_cons_zero, List.getElem_cons_succ, Option.isNone_some, Option.isNone_none, List.getD_cons_zero, List.getD_cons_succ, I.at, atL, atO, atP, evp, evs, retV, ↓reduceIte, Nat.reduceEqDiff, reduceCtorEq]; exact t0, by simp only [WS, List.getElem_cons_zero, List.getElem_cons_succ, Option.isNone_some, Option.isNone_none, List.getD_cons_zero, List.getD_cons_succ, I.at, atL, atO, atP, evp, evs, retV, ↓reduceIte, Nat.reduceEqDiff, reduceCtorEq]; exact t6, B, ov, 0, rfl, by omega, rfl⟩ ?_
    clear t0 t1 t6 t7 B ov
    rintro t w4 ⟨t0, t6, B, ov, j, t12, hj, t11⟩
    by_cases hjl : j < l.length
    · have jv : j < (xls (2 ^ i) x).length := by rw [xls_len]; omega
      have hg := xls_get jv
      have hx : evX 16 (j + 1) (co l).c x = evX 16 j (co l).c x + l[j] * xV 16 j x := by rw [← co_get l hjl]; rfl
      have hs := h.up B
      simp (maxSteps := 1000000) (disch := omega) only [WS, List.getElem_cons_zero, List.getElem_cons_succ, Option.isNone_some, Option.isNone_none, List.getD_cons_zero, List.getD_cons_succ, I.at, atL, atO, atP, evp, evs, retV, ↓reduceIte, Nat.reduceEqDiff, reduceCtorEq, AS, t0, t6, t11, t12, hs.Xlen]
      refine WP_dops ?_
      have hsd := hs.drew
      have hvd := ov.drew
      simp (maxSteps := 1000000) (disch := omega) only [ES, List.mem_cons, List.not_mem_nil, implies_true, forall_const, WS, List.getElem_cons_zero, List.getElem_cons_succ, Option.isNone_some, Option.isNone_none, List.getD_cons_zero, List.getD_cons_succ, I.at, atL, atO, atP, evp, evs, retV, ↓reduceIte, Nat.reduceEqDiff, reduceCtorEq, AS, t0, t6, t11, t12, hsd.Eix hjl, hsd.Eld hjl, hvd.Eix jv, hvd.Eld jv, hg, cell_e16]
      refine E_call0 ((culletref03_Mul_spec w4.drew l[j] (xV 16 j x)).mono ?_)
      rintro _ w5 ⟨rfl, rfl⟩
      simp (maxSteps := 1000000) (disch := omega) only [ES, List.mem_cons, List.not_mem_nil, implies_true, forall_const, WS, List.getElem_cons_zero, List.getElem_cons_succ, Option.isNone_some, Option.isNone_none, List.getD_cons_zero, List.getD_cons_succ, I.at, atL, atO, atP, evp, evs, retV, ↓reduceIte, Nat.reduceEqDiff, reduceCtorEq, AS, t0, t6, t11, t12, xor16]
      exact ⟨⟨B.trans ((bel_drew w4).mono B.size), hvd, j + 1, rfl, by omega, by rw [hx]⟩, by omega⟩
    · obtain rfl : j = l.length := by omega
      simp (maxSteps := 1000000) (disch := omega) only [WS, List.getElem_cons_zero, List.getElem_cons_succ, Option.isNone_some, Option.isNone_none, List.getD_cons_zero, List.getD_cons_succ, I.at, atL, atO, atP, evp, evs, retV, ↓reduceIte, Nat.reduceEqDiff, reduceCtorEq, AS, t0, t6, t11, t12, (h.up B).Xlen]
      exact ⟨B, Or.inr (by omega)⟩
theorem culletref13_Derivative_spec (w : World) (s : Value) (l : List (El 16)) (h : Sl w s l) (hb : l.length ≤ 70368744175616) : CallV Try.prog 52 [s] w fun v w' => RowKit.Below w.heap.size w w' ∧
    ((∃ k, k ≤ 16 ∧ l.length = 2 ^ k ∧ ∃ sv m, v = .tuple #[sv, .int .i64 0] ∧ Ow w.heap.size w' sv m ∧ m.length = 2 ^ k ∧ ∀ j, j < 2 ^ k → (co m).c j = dX k (co l).c j) ∨ (¬ (1 ≤ l.length ∧ l.length ≤ 65536 ∧ l.length &&& (l.length - 1) = 0) ∧ v = .tuple #[.slice none 0 0, .int .i64 130])) := by
  refine run_culletref13_Derivative (by simp) ?_
  simp only [c_culletref13_Derivative, WS, List.getElem_cons_zero, List.getElem_cons_succ, Option.isNone_some, Option.isNone_none, List.getD_cons_zero, List.getD_cons_succ, I.at, atL, atO, atP, evp, evs, retV, ↓reduceIte, Nat.reduceEqDiff, reduceCtorEq, h.Xlen]
  refine X_call0 ((culletref13_power_spec w l.length 16 (by omega) hb).mono ?_)
  rintro _ w ⟨rfl, rfl⟩
  rw [show 2 ^ 16 = 65536 from rfl]
  by_cases hp : 1 ≤ l.length ∧ l.length ≤ 65536 ∧ l.length &&& (l.length - 1) = 0
  rotate_left
  · simp (maxSteps := 1000000) (disch := omega) only [WS, List.getElem_cons_zero, List.getElem_cons_succ, Option.isNone_some, Option.isNone_none, List.getD_cons_zero, List.getD_cons_succ, I.at, atL, atO, atP, evp, evs, retV, ↓reduceIte, Nat.reduceEqDiff, reduceCtorEq, AS]
    exact ⟨RowKit.Below.refl _ _, Or.inr hp⟩
  obtain ⟨k, hlk⟩ := pow_of_and _ l.length (Nat.le_refl _) (by omega) hp.2.2
  have hk : k ≤ 16 := by
    rcases Nat.lt_or_ge 16 k with hlt | hge
    · have := Nat.pow_le_pow_right (show 0 < 2 by omega) hlt
      omega
    · exact hge
  have hk16 := pow_le16' hk
  have hd : decide (1 ≤ l.length ∧ l.length ≤ 65536 ∧ l.length &&& (l.length - 1) = 0) = true := decide_eq_true hp
  clear hp
  rw [hlk] at hd
  have h0 := Nat.two_pow_pos k
  simp (maxSteps := 1000000) (disch := omega) only [WS, List.getElem_cons_zero, List.getElem_cons_succ, Option.isNone_some, Option.isNone_none, List.getD_cons_zero, List.getD_cons_succ, I.at, atL, atO, atP, evp, evs, retV, ↓reduceIte, Nat.reduceEqDiff, reduceCtorEq, AS, hd, h.Xlen, hlk]
  refine X_mks (x := (0 : El 16)) (by simp only [maxBytes]; omega) (by omega) fun sv w1 ov hB => ?_
  have B := hB
  clear hB
  simp (maxSteps := 1000000) (disch := omega) only [WS, List.getElem_cons_zero, List.getElem_cons_succ, Option.isNone_some, Option.isNone_none, List.getD_cons_zero, List.getD_cons_succ, I.at, atL, atO, atP, evp, evs, retV, ↓reduceIte, Nat.reduceEqDiff, reduceCtorEq, AS]
  refine loop_of (fun t w' => t 0 = s ∧ t 4 = sv ∧ RowKit.Below w.heap.size w w' ∧ ∃ (j : Nat) (m : List (El 16)), t 5 = .int .i64 (j : Int) ∧ j ≤ 2 ^ k ∧ Ow w.heap.size w' sv m ∧ m.length = 2 ^ k ∧ ∀ u, (co m).c u = if u < j then dX k (co l).c u else 0)
    (fun t _ => 2 ^ k - (toI (t 5)).toNat) ⟨by simp only [WS, List.getElem_cons_zero, List.getElem_cons_succ, Option.isNone_some, Option.isNone_none, List.getD_cons_zero, List.getD_cons_succ, I.at, atL, atO, atP, evp, evs, retV, ↓reduceIte, Nat.reduceEqDiff, reduceCtorEq], by simp only [WS, List.getElem_cons_zero, List.getElem_cons_succ, Option.isNone_some, Option.isNone_none, List.getD_cons_zero, List.getD_cons_succ, I.at, atL, atO, atP, evp, evs, retV, ↓reduceIte, Nat.reduceEqDiff, reduceCtorEq], B, 0, _, rfl, by omega, ov, List.length_replicate .., fun u => by rw [co_replicate, if_neg (by omega)]; rfl⟩ ?_
  clear B ov
  rintro t w2 ⟨t0, t4, B, j, m, t5, hj, ov, ml, mc⟩
  by_cases hjk : j < 2 ^ k
  · simp (maxSteps := 1000000) (disch := omega) only [WS, List.getElem_cons_zero, List.getElem_cons_succ, Option.isNone_some, Option.isNone_none, List.getD_cons_zero, List.getD_cons_succ, I.at, atL, atO, atP, evp, evs, retV, ↓reduceIte, Nat.reduceEqDiff, reduceCtorEq, AS, t0, t4, t5, (h.up B).Xlen, hlk]
    refine loop_of (fun t w' => t 0 = s ∧ t 4 = sv ∧ t 5 = .int .i64 (j : Int) ∧ RowKit.Below w.heap.size w w' ∧ ∃ (i : Nat) (m : List (El 16)), t 6 = .int .i64 (i : Int) ∧ i ≤ 16 ∧ Ow w.heap.size w' sv m ∧ m.length = 2 ^ k ∧ ∀ u, (co m).c u = if u < j then dX k (co l).c u else if u = j then esum i (fun i => if j.testBit i then 0 else (co l).c (j + 2 ^ i)) else 0)
      (fun t _ => 16 - (toI (t 6)).toNat) ⟨by simp only [WS, List.getElem_cons_zero, List.getElem_cons_succ, Option.isNone_some, Option.isNone_none, List.getD_cons_zero, List.getD_cons_succ, I.at, atL, atO, atP, evp, evs, retV, ↓reduceIte, Nat.reduceEqDiff, reduceCtorEq]; exact t0, by simp only [WS, List.getElem_cons_zero, List.getElem_cons_succ, Option.isNone_some, Option.isNone_none, List.getD_cons_zero, List.getD_cons_succ, I.at, atL, atO, atP, evp, evs, retV, ↓reduceIte, Nat.reduceEqDiff, reduceCtorEq]; exact t4, by simp only [WS, List.getElem_cons_zero, List.getElem_cons_succ, Option.isNone_some, Option.isNone_none, List.getD_cons_zero, List.getD_cons_succ, I.at, atL, atO, atP, evp, evs, retV, ↓reduceIte, Nat.reduceEqDiff, reduceCtorEq]; exact t5, B, 0, m, rfl, by omega, ov, ml, fun u => by
        rw [mc u]
        by_cases hu : u < j
        · rw [if_pos hu, if_pos hu]
        · rw [if_neg hu, if_neg hu]; split <;> rfl⟩ ?_
    clear t0 t4 t5 B ov ml mc
    rintro t w3 ⟨t0, t4, t5, B, i, m, t6, hi, ov, ml, mc⟩
    by_cases hi16 : i < 16
    · have hi0 := Nat.two_pow_pos i
      have hi16' := pow_le16' hi
      have f1 : IntKind.u64.wrap (i : Int) = (i : Int) := wrap_u64 i (by omega)
      have fnn : ((0 : Int) ≤ (i : Int)) = True := eq_true (by omega)
      have e0 := shr_nat .i64 j i (by show i ≤ 64; omega)
      have e1 : bitsOp .and .i64 ((j >>> i : Nat) : Int) 1 = (((j >>> i) &&& 1 : Nat) : Int) := bits_and fits_i64 (b := 1) (by rw [Nat.shiftRight_eq_div_pow]; exact Nat.lt_of_le_of_lt (Nat.div_le_self _ _) (by omega)) (by decide)
      rw [and_one_shr] at e1
      have e2 := shl_one i (by omega)
      have jm : j < m.length := by omega
      have hsum : ∀ x : El 16, (if j.testBit i then 0 else (co l).c (j + 2 ^ i)) = x → esum (i + 1) (fun i => if j.testBit i then 0 else (co l).c (j + 2 ^ i)) = esum i (fun i => if j.testBit i then 0 else (co l).c (j + 2 ^ i)) + x := fun x hx => by rw [← hx]; rfl
      have d1 : decide (((1 : Nat) : Int) = 0) = false := rfl
      have d0 : decide (((0 : Nat) : Int) = 0) = true := rfl
      by_cases hbit : j.testBit i = true
      · rw [if_pos hbit] at e1
        simp (maxSteps := 1000000) (disch := omega) only [WS, List.getElem_cons_zero, List.getElem_cons_succ, Option.isNone_some, Option.isNone_none, List.getD_cons_zero, List.getD_cons_succ, I.at, atL, atO, atP, evp, evs, retV, ↓reduceIte, Nat.reduceEqDiff, reduceCtorEq, AS, t0, t4, t5, t6, f1, X_shr, fnn, e0, e1, d1]
        refine ⟨⟨B, i + 1, m, rfl, by omega, ov, ml, fun u => ?_⟩, by omega⟩
        rw [mc u, hsum 0 (by rw [if_pos hbit]), El.add_zero]
      · rw [if_neg hbit] at e1
        by_cases hjl : j + 2 ^ i < 2 ^ k
        · have jl : j + 2 ^ i < l.length := by omega
          simp (maxSteps := 1000000) (disch := omega) only [WS, List.getElem_cons_zero, List.getElem_cons_succ, Option.isNone_some, Option.isNone_none, List.getD_cons_zero, List.getD_cons_succ, I.at, atL, atO, atP, evp, evs, retV, ↓reduceIte, Nat.reduceEqDiff, reduceCtorEq, AS, t0, t4, t5, t6, f1, X_shr, X_shl, fnn, e0, e1, d0, e2, (h.up B).Xlen, hlk]
          refine WP_dops ?_
          have hsd := (h.up B).drew
          have hvd := ov.sl.drew
          simp (maxSteps := 1000000) (disch := omega) only [ES, List.mem_cons, List.not_mem_nil, implies_true, forall_const, WS, List.getElem_cons_zero, List.getElem_cons_succ, Option.isNone_some, Option.isNone_none, List.getD_cons_zero, List.getD_cons_succ, I.at, atL, atO, atP, evp, evs, retV, ↓reduceIte, Nat.reduceEqDiff, reduceCtorEq, AS, t0, t4, t5, t6, f1, E_shl, fnn, e2, hvd.Eix jm, hvd.Eld jm, hsd.Eix jl, hsd.Eld jl, cell_e16, xor16]
          refine Ow.Est ov.drew jm (m[j] + l[j + 2 ^ i]) fun w7 ov7 hg7 => ?_
          simp (maxSteps := 1000000) (disch := omega) only [ES, List.mem_cons, List.not_mem_nil, implies_true, forall_const, WS, List.getElem_cons_zero, List.getElem_cons_succ, Option.isNone_some, Option.isNone_none, List.getD_cons_zero, List.getD_cons_succ, I.at, atL, atO, atP, evp, evs, retV, ↓reduceIte, Nat.reduceEqDiff, reduceCtorEq, AS, t0, t4, t5, t6]
          refine ⟨⟨B.grown (grown_of_drew hg7) B.size fun b hb => (ov.blk b hb).1, i + 1, _, rfl, by omega, ov7, by simp [ml], fun u => ?_⟩, by omega⟩
          rw [co_set _ jm, hsum _ (if_neg hbit), ← co_get m jm, ← co_get l jl, mc u, mc j]
          by_cases hu : u = j
          · subst hu
            rw [if_pos rfl, if_neg (by omega), if_pos rfl, if_neg (by omega), if_pos rfl]
          · rw [if_neg hu, if_neg hu, if_neg hu]
        · simp (maxSteps := 1000000) (disch := omega) only [WS, List.getElem_cons_zero, List.getElem_cons_succ, Option.isNone_some, Option.isNone_none, List.getD_cons_zero, List.getD_cons_succ, I.at, atL, atO, atP, evp, evs, retV, ↓reduceIte, Nat.reduceEqDiff, reduceCtorEq, AS, t0, t4, t5, t6, f1, X_shr, X_shl, fnn, e0, e1, d0, e2, (h.up B).Xlen, hlk]
          refine ⟨⟨B, i + 1, m, rfl, by omega, ov, ml, fun u => ?_⟩, by omega⟩
          rw [mc u, hsum 0 (by rw [if_neg hbit, co_dg l _ (by omega)]), El.add_zero]
    · obtain rfl : i = 16 := by omega
      have hst : esum 16 (fun i => if j.testBit i then 0 else (co l).c (j + 2 ^ i)) = dX k (co l).c j := by
        have key := esum_append k (16 - k) (fun i => if j.testBit i then 0 else (co l).c (j + 2 ^ i))
        rw [show k + (16 - k) = 16 by omega] at key
        rw [key, esum_zero (n := 16 - k), El.add_zero]
        · rfl
        · intro u hu
          have : 2 ^ k ≤ 2 ^ (k + u) := Nat.pow_le_pow_right (by omega) (by omega)
          split
          · rfl
          · exact co_dg l _ (by omega)
      simp (maxSteps := 1000000) (disch := omega) only [WS, List.getElem_cons_zero, List.getElem_cons_succ, Option.isNone_some, Option.isNone_none, List.getD_cons_zero, List.getD_cons_succ, I.at, atL, atO, atP, evp, evs, retV, ↓reduceIte, Nat.reduceEqDiff, reduceCtorEq, AS, t0, t4, t5, t6, show decide (((16 : Nat) : Int) < 16) = false from rfl]
      refine ⟨⟨B, j + 1, m, rfl, by omega, ov, ml, fun u => ?_⟩, by omega⟩
      rw [mc u, hst]
      by_cases hu : u < j
      · rw [if_pos hu, if_pos (by omega)]
      · rw [if_neg hu]
        by_cases hu2 : u = j
        · subst hu2; rw [if_pos rfl, if_pos (by omega)]
        · rw [if_neg hu2, if_neg (by omega)]
  · obtain rfl : j = 2 ^ k := by omega
    simp (maxSteps := 1000000) (disch := omega) only [WS, List.getElem_cons_zero, List.getElem_cons_succ, Option.isNone_some, Option.isNone_none, List.getD_cons_zero, List.getD_cons_succ, I.at, atL, atO, atP, evp, evs, retV, ↓reduceIte, Nat.reduceEqDiff, reduceCtorEq, AS, t0, t4, t5, (h.up B).Xlen, hlk]
    exact ⟨B, Or.inl ⟨k, hk, rfl, sv, m, rfl, ov, ml, fun j hj => by rw [mc j, if_pos hj]⟩⟩
end Go.Proofs.Ytcnabolainmaeaa.Fw
