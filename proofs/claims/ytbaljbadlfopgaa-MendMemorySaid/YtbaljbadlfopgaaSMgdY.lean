import Derived.Test.YtbaljbadlfopgaaProg
import Derived.Test.YtbaljbadlfopgaaFwTY
import Derived.Test.YtbaljbadlfopgaaGfUY
set_option linter.all false
set_option linter.unusedVariables false
set_option linter.unusedSimpArgs false
set_option maxRecDepth 100000
set_option maxHeartbeats 1000000
namespace Go.Proofs.Ytbaljbadlfopgaa.Fw
open Go Go.Fw Go.Proofs
attribute [local irreducible] stepI
def c_gf8_Div : C := .seq (.ops [⟨0, (some 4), none, .mov (.c (.int .u8 0)), []⟩, ⟨1, (some 5), none, .mov (.c (.int .i64 0)), []⟩]) (.seq (.ops [⟨0, (some 9), none, .mov (.t 1), []⟩, ⟨1, (some 10), none, .call (.c (.func (.func 95) #[] #[])) [.t 9], []⟩, ⟨2, (some 8), none, .mov (.t 10), []⟩, ⟨3, (some 11), none, .ext (.t 8) 0, []⟩, ⟨4, (some 12), none, .ext (.t 8) 1, []⟩, ⟨5, (some 6), none, .mov (.t 11), []⟩, ⟨6, (some 7), none, .mov (.t 12), []⟩]) (.seq (.seq (.ops [⟨0, (some 13), none, .mov (.t 7), []⟩, ⟨1, (some 14), none, .bin .neq (.t 13) (.c (.int .i64 0)), []⟩]) (.ite (.t 14) (.seq (.ops [⟨0, (some 15), none, .mov (.t 7), []⟩, ⟨1, (some 4), none, .mov (.c (.int .u8 0)), []⟩, ⟨2, (some 5), none, .mov (.t 15), []⟩]) .ret) .skip)) (.seq (.ops [⟨0, (some 16), none, .mov (.t 0), []⟩, ⟨1, (some 17), none, .mov (.t 6), []⟩, ⟨2, (some 18), none, .call (.c (.func (.func 53) #[] #[])) [.t 16, .t 17], []⟩, ⟨3, (some 4), none, .mov (.t 18), []⟩, ⟨4, (some 5), none, .mov (.c (.int .i64 0)), []⟩]) .ret)))
attribute [irreducible] c_gf8_Div
theorem run_gf8_Div {args : List Value} {w : World} {K : Value → World → Prop} (hn : args.length ≤ 19) (h : WP Try.prog c_gf8_Div (endQ [.t 4, .t 5] K) (initT args) w) : CallV Try.prog 61 args w K :=
  call_of follows Try.func61 (by kernel_rfl) (by kernel_rfl) hn h
def c_gf8_Inv : C := .seq (.ops [⟨0, (some 2), none, .mov (.c (.int .u8 0)), []⟩, ⟨1, (some 3), none, .mov (.c (.int .i64 0)), []⟩]) (.seq (.seq (.ops [⟨0, (some 4), none, .mov (.t 0), []⟩, ⟨1, (some 5), none, .bin .eql (.t 4) (.c (.int .u8 0)), []⟩]) (.ite (.t 5) (.seq (.ops [⟨0, (some 2), none, .mov (.c (.int .u8 0)), []⟩, ⟨1, (some 3), none, .mov (.c (.int .i64 20)), []⟩]) .ret) .skip)) (.seq (.ops [⟨0, (some 6), none, .mov (.t 0), []⟩, ⟨1, (some 7), none, .call (.c (.func (.func 134) #[] #[])) [.t 6, .c (.int .i64 254)], []⟩, ⟨2, (some 2), none, .mov (.t 7), []⟩, ⟨3, (some 3), none, .mov (.c (.int .i64 0)), []⟩]) .ret))
attribute [irreducible] c_gf8_Inv
theorem run_gf8_Inv {args : List Value} {w : World} {K : Value → World → Prop} (hn : args.length ≤ 8) (h : WP Try.prog c_gf8_Inv (endQ [.t 2, .t 3] K) (initT args) w) : CallV Try.prog 95 args w K :=
  call_of follows Try.func95 (by kernel_rfl) (by kernel_rfl) hn h
def c_gf8_power : C := .seq (.ops [⟨0, (some 4), none, .mov (.c (.int .u8 0)), []⟩]) (.seq (.ops [⟨0, (some 5), none, .mov (.c (.int .u8 1)), []⟩]) (.seq (.block 0 (.loop (.seq (.seq (.ops [⟨0, (some 6), none, .mov (.t 1), []⟩, ⟨1, (some 7), none, .bin .gtr (.t 6) (.c (.int .i64 0)), []⟩]) (.ite (.t 7) .skip (.exit 0))) (.seq (.block 1 (.seq (.seq (.ops [⟨0, (some 10), none, .mov (.t 1), []⟩, ⟨1, (some 11), none, .bin .and (.t 10) (.c (.int .i64 1)), []⟩, ⟨2, (some 12), none, .bin .neq (.t 11) (.c (.int .i64 0)), []⟩]) (.ite (.t 12) (.ops [⟨0, (some 13), none, .mov (.t 5), []⟩, ⟨1, (some 14), none, .mov (.t 0), []⟩, ⟨2, (some 15), none, .call (.c (.func (.func 53) #[] #[])) [.t 13, .t 14], []⟩, ⟨3, (some 5), none, .mov (.t 15), []⟩]) .skip)) (.ops [⟨0, (some 16), none, .mov (.t 0), []⟩, ⟨1, (some 17), none, .mov (.t 0), []⟩, ⟨2, (some 18), none, .call (.c (.func (.func 53) #[] #[])) [.t 16, .t 17], []⟩, ⟨3, (some 0), none, .mov (.t 18), []⟩]))) (.ops [⟨0, (some 8), none, .mov (.t 1), []⟩, ⟨1, (some 9), none, .bin .shr (.t 8) (.c (.int .u64 1)), []⟩, ⟨2, (some 1), none, .mov (.t 9), []⟩]))))) (.seq (.ops [⟨0, (some 19), none, .mov (.t 5), []⟩, ⟨1, (some 4), none, .mov (.t 19), []⟩]) .ret)))
attribute [irreducible] c_gf8_power
theorem run_gf8_power {args : List Value} {w : World} {K : Value → World → Prop} (hn : args.length ≤ 20) (h : WP Try.prog c_gf8_power (endQ [.t 4] K) (initT args) w) : CallV Try.prog 134 args w K :=
  call_of follows Try.func134 (by kernel_rfl) (by kernel_rfl) hn h
end Go.Proofs.Ytbaljbadlfopgaa.Fw
namespace Go.Proofs.Ytbaljbadlfopgaa.Fw
open Go Go.Fw
theorem pw254 : ∀ i < 8, 254 / 2 ^ i ≠ 0 ∧ (254 / 2 ^ i % 2 = if i = 0 then 0 else 1) := by decide +kernel
theorem gf8_Inv_spec (w : World) (a : El 8) (h0 : a ≠ 0) : CallV Try.prog 95 [.int .u8 (a.v.toNat : Int)] w fun v w' => v = .tuple #[.int .u8 (a.inv.v.toNat : Int), .int .i64 0] ∧ w' = w := by
  refine run_gf8_Inv (by simp) ?_
  simp only [c_gf8_Inv, WS, List.getElem_cons_zero, List.getElem_cons_succ, Option.isNone_some, Option.isNone_none, List.getD_cons_zero, List.getD_cons_succ, I.at, atL, atO, atP, evp, evs, retV, ↓reduceIte, Nat.reduceEqDiff, reduceCtorEq]
  have d0 : decide ((a.v.toNat : Int) = 0) = false := decide_eq_false fun e => h0 ((el_zero _).mp e)
  simp (maxSteps := 1000000) (disch := omega) only [WS, List.getElem_cons_zero, List.getElem_cons_succ, Option.isNone_some, Option.isNone_none, List.getD_cons_zero, List.getD_cons_succ, I.at, atL, atO, atP, evp, evs, retV, ↓reduceIte, Nat.reduceEqDiff, reduceCtorEq, AS, d0]
  have hp : CallV Try.prog 134 [.int .u8 (a.v.toNat : Int), .int .i64 254] w fun v w' => v = .int .u8 (a.inv.v.toNat : Int) ∧ w' = w := by
    refine run_gf8_power (by simp) ?_
    simp only [c_gf8_power, WS, List.getElem_cons_zero, List.getElem_cons_succ, Option.isNone_some, Option.isNone_none, List.getD_cons_zero, List.getD_cons_succ, I.at, atL, atO, atP, evp, evs, retV, ↓reduceIte, Nat.reduceEqDiff, reduceCtorEq]
    refine loop_of (fun t w2 => w2 = w ∧ ∃ i : Nat, t 1 = .int .i64 ((254 / 2 ^ i : Nat) : Int) ∧ i ≤ 8 ∧ t 0 = .int .u8 ((sqn a i).v.toNat : Int) ∧ t 5 = .int .u8 ((pin a (i - 1)).v.toNat : Int)) (fun t _ => (toI (t 1)).toNat) ⟨rfl, 0, rfl, by omega, by simp only [WS, List.getElem_cons_zero, List.getElem_cons_succ, Option.isNone_some, Option.isNone_none, List.getD_cons_zero, List.getD_cons_succ, I.at, atL, atO, atP, evp, evs, retV, ↓reduceIte, Nat.reduceEqDiff, reduceCtorEq]; rfl, rfl⟩ ?_
    rintro t w2 ⟨rfl, i, t1, hi, t0, t5⟩
    by_cases hlt : i < 8
    · obtain ⟨q1, q2⟩ := pw254 i hlt
      have hdd : 254 / 2 ^ i / 2 = 254 / 2 ^ (i + 1) := by rw [Nat.div_div_eq_div_mul, Nat.pow_succ]
      have hle : 254 / 2 ^ i ≤ 254 := Nat.div_le_self _ _
      generalize 254 / 2 ^ i = r at q1 q2 hdd t1 hle
      have e1 : bitsOp .and .i64 (r : Int) 1 = ((r % 2 : Nat) : Int) := by
        rw [show (1 : Int) = ((1 : Nat) : Int) from rfl, bits_and fits_i64 (by omega) (by decide), Nat.and_one_is_mod]
      have e2 : shrV .i64 (r : Int) 1 = ((254 / 2 ^ (i + 1) : Nat) : Int) := by
        rw [show (1 : Int) = ((1 : Nat) : Int) from rfl, shr_nat .i64 r 1 (by decide), Nat.shiftRight_eq_div_pow, Nat.pow_one, hdd]
      have hlt2 : 254 / 2 ^ (i + 1) < r := by omega
      by_cases hi0 : i = 0
      · subst hi0
        rw [if_pos rfl] at q2
        simp (maxSteps := 1000000) (disch := omega) only [WS, List.getElem_cons_zero, List.getElem_cons_succ, Option.isNone_some, Option.isNone_none, List.getD_cons_zero, List.getD_cons_succ, I.at, atL, atO, atP, evp, evs, retV, ↓reduceIte, Nat.reduceEqDiff, reduceCtorEq, AS, t0, t1, t5, e1, q2, show decide (((0 : Nat) : Int) ≠ 0) = false from rfl]
        refine X_call0 ((gf8_Mul_spec w2 (sqn a 0) (sqn a 0)).mono ?_)
        rintro _ w3 ⟨rfl, rfl⟩
        simp (maxSteps := 1000000) (disch := omega) only [WS, List.getElem_cons_zero, List.getElem_cons_succ, Option.isNone_some, Option.isNone_none, List.getD_cons_zero, List.getD_cons_succ, I.at, atL, atO, atP, evp, evs, retV, ↓reduceIte, Nat.reduceEqDiff, reduceCtorEq, AS, t0, t1, t5, X_shr, Int.reduceLE, e2]
        exact ⟨⟨1, rfl, by omega, rfl, rfl⟩, by simp only [Int.toNat_natCast]; exact hlt2⟩
      · rw [if_neg hi0] at q2
        obtain ⟨j, rfl⟩ : ∃ j, i = j + 1 := ⟨i - 1, by omega⟩
        rw [Nat.add_sub_cancel] at t5
        simp (maxSteps := 1000000) (disch := omega) only [WS, List.getElem_cons_zero, List.getElem_cons_succ, Option.isNone_some, Option.isNone_none, List.getD_cons_zero, List.getD_cons_succ, I.at, atL, atO, atP, evp, evs, retV, ↓reduceIte, Nat.reduceEqDiff, reduceCtorEq, AS, t0, t1, t5, e1, q2, show decide (((1 : Nat) : Int) ≠ 0) = true from rfl]
        refine X_call0 ((gf8_Mul_spec w2 (pin a j) (sqn a (j + 1))).mono ?_)
        rintro _ w3 ⟨rfl, rfl⟩
        simp (maxSteps := 1000000) (disch := omega) only [WS, List.getElem_cons_zero, List.getElem_cons_succ, Option.isNone_some, Option.isNone_none, List.getD_cons_zero, List.getD_cons_succ, I.at, atL, atO, atP, evp, evs, retV, ↓reduceIte, Nat.reduceEqDiff, reduceCtorEq, AS, t0, t1, t5]
        refine X_call0 ((gf8_Mul_spec w3 (sqn a (j + 1)) (sqn a (j + 1))).mono ?_)
        rintro _ w4 ⟨rfl, rfl⟩
        simp (maxSteps := 1000000) (disch := omega) only [WS, List.getElem_cons_zero, List.getElem_cons_succ, Option.isNone_some, Option.isNone_none, List.getD_cons_zero, List.getD_cons_succ, I.at, atL, atO, atP, evp, evs, retV, ↓reduceIte, Nat.reduceEqDiff, reduceCtorEq, AS, t0, t1, t5, X_shr, Int.reduceLE, e2]
        exact ⟨⟨j + 2, rfl, by omega, rfl, rfl⟩, by simp only [Int.toNat_natCast]; exact hlt2⟩
    · obtain rfl : i = 8 := by omega
      rw [show (8 : Nat) - 1 = 7 from rfl, pin_inv8] at t5
      simp (maxSteps := 1000000) (disch := omega) only [WS, List.getElem_cons_zero, List.getElem_cons_succ, Option.isNone_some, Option.isNone_none, List.getD_cons_zero, List.getD_cons_succ, I.at, atL, atO, atP, evp, evs, retV, ↓reduceIte, Nat.reduceEqDiff, reduceCtorEq, AS, t0, t1, t5, show decide (((254 / 2 ^ 8 : Nat) : Int) > 0) = false from rfl]
  refine X_call0 (hp.mono ?_)
  rintro _ w1 ⟨rfl, rfl⟩
  simp (maxSteps := 1000000) (disch := omega) only [WS, List.getElem_cons_zero, List.getElem_cons_succ, Option.isNone_some, Option.isNone_none, List.getD_cons_zero, List.getD_cons_succ, I.at, atL, atO, atP, evp, evs, retV, ↓reduceIte, Nat.reduceEqDiff, reduceCtorEq, AS]
theorem gf8_Div_spec (w : World) (a b : El 8) (h0 : b ≠ 0) : CallV Try.prog 61 [.int .u8 (a.v.toNat : Int), .int .u8 (b.v.toNat : Int)] w fun v w' => v = .tuple #[.int .u8 ((a * b.inv).v.toNat : Int), .int .i64 0] ∧ w' = w := by
  refine run_gf8_Div (by simp) ?_
  simp only [c_gf8_Div, WS, List.getElem_cons_zero, List.getElem_cons_succ, Option.isNone_some, Option.isNone_none, List.getD_cons_zero, List.getD_cons_succ, I.at, atL, atO, atP, evp, evs, retV, ↓reduceIte, Nat.reduceEqDiff, reduceCtorEq]
  refine X_call0 ((gf8_Inv_spec w b h0).mono ?_)
  rintro _ w1 ⟨rfl, rfl⟩
  simp (maxSteps := 1000000) (disch := omega) only [WS, List.getElem_cons_zero, List.getElem_cons_succ, Option.isNone_some, Option.isNone_none, List.getD_cons_zero, List.getD_cons_succ, I.at, atL, atO, atP, evp, evs, retV, ↓reduceIte, Nat.reduceEqDiff, reduceCtorEq, AS, show decide ((0 : Int) ≠ 0) = false from rfl]
  refine X_call0 ((gf8_Mul_spec w1 a b.inv).mono ?_)
  rintro _ w2 ⟨rfl, rfl⟩
  simp (maxSteps := 1000000) (disch := omega) only [WS, List.getElem_cons_zero, List.getElem_cons_succ, Option.isNone_some, Option.isNone_none, List.getD_cons_zero, List.getD_cons_succ, I.at, atL, atO, atP, evp, evs, retV, ↓reduceIte, Nat.reduceEqDiff, reduceCtorEq, AS]
end Go.Proofs.Ytbaljbadlfopgaa.Fw
