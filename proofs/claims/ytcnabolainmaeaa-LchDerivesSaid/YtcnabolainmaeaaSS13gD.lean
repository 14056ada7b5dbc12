import Derived.Test.YtcnabolainmaeaaProg
import Derived.Test.YtcnabolainmaeaaFwTD
import Derived.Test.YtcnabolainmaeaaSS13fD
set_option linter.all false
set_option linter.unusedVariables false
set_option linter.unusedSimpArgs false
set_option maxRecDepth 100000
set_option maxHeartbeats 1000000
namespace Go.Proofs.Ytcnabolainmaeaa.Fw
open Go Go.Fw Go.Proofs
attribute [local irreducible] stepI
def c_culletlaw13_LchDerives : C := .seq (.ops [⟨0, (some 2), none, .mov (.c (.bool false)), []⟩]) (.seq (.seq (.ops [⟨0, (some 12), none, .call (.c (.func (.func 12) #[] #[])) [], []⟩, ⟨1, (some 13), none, .un .not (.t 12), []⟩]) (.ite (.t 13) (.seq (.ops [⟨0, (some 2), none, .mov (.c (.bool false)), []⟩]) .ret) .skip)) (.seq (.ops [⟨0, (some 15), none, .mov (.t 0), []⟩, ⟨1, (some 16), none, .call (.c (.func (.func 19) #[] #[])) [.t 15], []⟩, ⟨2, (some 17), none, .call (.c (.func (.func 18) #[] #[])) [.t 16], []⟩, ⟨3, (some 14), none, .mov (.t 17), []⟩, ⟨4, (some 18), none, .ext (.t 14) 0, []⟩, ⟨5, (some 19), none, .ext (.t 14) 1, []⟩, ⟨6, (some 3), none, .mov (.t 18), []⟩, ⟨7, (some 4), none, .mov (.t 19), []⟩]) (.seq (.ops [⟨0, (some 20), none, .mov (.t 0), []⟩, ⟨1, (some 21), none, .len (.t 20), []⟩, ⟨2, (some 5), none, .mov (.t 21), []⟩]) (.seq (.seq (.ops [⟨0, (some 22), none, .mov (.t 5), []⟩, ⟨1, (some 23), none, .bin .lss (.t 22) (.c (.int .i64 1)), []⟩, ⟨2, (some 24), none, .mov (.t 23), []⟩, ⟨3, (some 25), (some (24, false)), .mov (.t 5), []⟩, ⟨4, (some 26), (some (24, false)), .bin .gtr (.t 25) (.c (.int .i64 65536)), []⟩, ⟨5, (some 27), none, .pick (.t 24) (.c (.bool true)) (.t 26), []⟩, ⟨6, (some 28), none, .mov (.t 27), []⟩, ⟨7, (some 29), (some (28, false)), .mov (.t 5), []⟩, ⟨8, (some 30), (some (28, false)), .mov (.t 5), []⟩, ⟨9, (some 31), (some (28, false)), .bin .sub (.t 30) (.c (.int .i64 1)), []⟩, ⟨10, (some 32), (some (28, false)), .bin .and (.t 29) (.t 31), []⟩, ⟨11, (some 33), (some (28, false)), .bin .neq (.t 32) (.c (.int .i64 0)), []⟩, ⟨12, (some 34), none, .pick (.t 28) (.c (.bool true)) (.t 33), []⟩]) (.ite (.t 34) (.seq (.ops [⟨0, (some 35), none, .mov (.t 3), []⟩, ⟨1, (some 36), none, .len (.t 35), []⟩, ⟨2, (some 37), none, .bin .eql (.t 36) (.c (.int .i64 0)), []⟩, ⟨3, (some 38), none, .mov (.t 37), []⟩, ⟨4, (some 39), (some (38, true)), .mov (.t 4), []⟩, ⟨5, (some 40), (some (38, true)), .bin .eql (.t 39) (.c (.int .i64 130)), []⟩, ⟨6, (some 41), none, .pick (.t 38) (.t 40) (.c (.bool false)), []⟩, ⟨7, (some 2), none, .mov (.t 41), []⟩]) .ret) .skip)) (.seq (.seq (.ops [⟨0, (some 42), none, .mov (.t 4), []⟩, ⟨1, (some 43), none, .bin .neq (.t 42) (.c (.int .i64 0)), []⟩, ⟨2, (some 44), none, .mov (.t 43), []⟩, ⟨3, (some 45), (some (44, false)), .mov (.t 3), []⟩, ⟨4, (some 46), (some (44, false)), .len (.t 45), []⟩, ⟨5, (some 47), (some (44, false)), .mov (.t 5), []⟩, ⟨6, (some 48), (some (44, false)), .bin .neq (.t 46) (.t 47), []⟩, ⟨7, (some 49), none, .pick (.t 44) (.c (.bool true)) (.t 48), []⟩]) (.ite (.t 49) (.seq (.ops [⟨0, (some 2), none, .mov (.c (.bool false)), []⟩]) .ret) .skip)) (.seq (.ops [⟨0, (some 51), none, .mov (.t 3), []⟩, ⟨1, (some 52), none, .call (.c (.func (.func 19) #[] #[])) [.t 51], []⟩, ⟨2, (some 53), none, .call (.c (.func (.func 18) #[] #[])) [.t 52], []⟩, ⟨3, (some 50), none, .mov (.t 53), []⟩, ⟨4, (some 54), none, .ext (.t 50) 0, []⟩, ⟨5, (some 55), none, .ext (.t 50) 1, []⟩, ⟨6, (some 6), none, .mov (.t 54), []⟩, ⟨7, (some 4), none, .mov (.t 55), []⟩]) (.seq (.seq (.ops [⟨0, (some 56), none, .mov (.t 4), []⟩, ⟨1, (some 57), none, .bin .neq (.t 56) (.c (.int .i64 0)), []⟩, ⟨2, (some 58), none, .mov (.t 57), []⟩, ⟨3, (some 59), (some (58, false)), .mov (.t 6), []⟩, ⟨4, (some 60), (some (58, false)), .len (.t 59), []⟩, ⟨5, (some 61), (some (58, false)), .mov (.t 5), []⟩, ⟨6, (some 62), (some (58, false)), .bin .neq (.t 60) (.t 61), []⟩, ⟨7, (some 63), none, .pick (.t 58) (.c (.bool true)) (.t 62), []⟩]) (.ite (.t 63) (.seq (.ops [⟨0, (some 2), none, .mov (.c (.bool false)), []⟩]) .ret) .skip)) (.seq (.seq (.ops [⟨0, (some 7), none, .mov (.c (.int .i64 0)), []⟩]) (.block 0 (.loop (.seq (.seq (.ops [⟨0, (some 64), none, .mov (.t 7), []⟩, ⟨1, (some 65), none, .mov (.t 5), []⟩, ⟨2, (some 66), none, .bin .lss (.t 64) (.t 65), []⟩]) (.ite (.t 66) .skip (.exit 0))) (.seq (.block 1 (.seq (.ops [⟨0, (some 69), none, .mov (.t 6), []⟩, ⟨1, (some 70), none, .mov (.t 7), []⟩, ⟨2, (some 71), none, .ixs 1 (.t 69) (.t 70), []⟩, ⟨3, (some 72), none, .ld (.t 71), []⟩, ⟨4, (some 73), none, .bin .neq (.t 72) (.c (.int .u16 0)), []⟩]) (.ite (.t 73) (.seq (.ops [⟨0, (some 2), none, .mov (.c (.bool false)), []⟩]) .ret) .skip))) (.ops [⟨0, (some 67), none, .mov (.t 7), []⟩, ⟨1, (some 68), none, .bin .add (.t 67) (.c (.int .i64 1)), []⟩, ⟨2, (some 7), none, .mov (.t 68), []⟩])))))) (.seq (.seq (.ops [⟨0, (some 74), none, .mov (.t 5), []⟩, ⟨1, (some 75), none, .bin .gtr (.t 74) (.c (.int .i64 256)), []⟩]) (.ite (.t 75) (.seq (.ops [⟨0, (some 2), none, .mov (.c (.bool true)), []⟩]) .ret) .skip)) (.seq (.ops [⟨0, (some 77), none, .mov (.t 0), []⟩, ⟨1, (some 78), none, .call (.c (.func (.func 19) #[] #[])) [.t 77], []⟩, ⟨2, (some 79), none, .call (.c (.func (.func 20) #[] #[])) [.t 78], []⟩, ⟨3, (some 76), none, .mov (.t 79), []⟩, ⟨4, (some 80), none, .ext (.t 76) 0, []⟩, ⟨5, (some 81), none, .ext (.t 76) 1, []⟩, ⟨6, (some 8), none, .mov (.t 80), []⟩, ⟨7, (some 4), none, .mov (.t 81), []⟩]) (.seq (.ops [⟨0, (some 83), none, .mov (.t 3), []⟩, ⟨1, (some 84), none, .call (.c (.func (.func 19) #[] #[])) [.t 83], []⟩, ⟨2, (some 85), none, .call (.c (.func (.func 20) #[] #[])) [.t 84], []⟩, ⟨3, (some 82), none, .mov (.t 85), []⟩, ⟨4, (some 86), none, .ext (.t 82) 0, []⟩, ⟨5, (some 87), none, .ext (.t 82) 1, []⟩, ⟨6, (some 9), none, .mov (.t 86), []⟩, ⟨7, (some 10), none, .mov (.t 87), []⟩]) (.seq (.seq (.ops [⟨0, (some 88), none, .mov (.t 4), []⟩, ⟨1, (some 89), none, .bin .neq (.t 88) (.c (.int .i64 0)), []⟩, ⟨2, (some 90), none, .mov (.t 89), []⟩, ⟨3, (some 91), (some (90, false)), .mov (.t 10), []⟩, ⟨4, (some 92), (some (90, false)), .bin .neq (.t 91) (.c (.int .i64 0)), []⟩, ⟨5, (some 93), none, .pick (.t 90) (.c (.bool true)) (.t 92), []⟩]) (.ite (.t 93) (.seq (.ops [⟨0, (some 2), none, .mov (.c (.bool false)), []⟩]) .ret) .skip)) (.seq (.ops [⟨0, (some 94), none, .call (.c (.func (.func 21) #[] #[])) [], []⟩, ⟨1, (some 11), none, .mov (.t 94), []⟩]) (.seq (.ops [⟨0, (some 95), none, .mov (.t 11), []⟩, ⟨1, (some 96), none, .mov (.t 8), []⟩, ⟨2, (some 97), none, .call (.c (.func (.func 23) #[] #[])) [.t 95, .t 96], []⟩, ⟨3, (some 98), none, .mov (.t 11), []⟩, ⟨4, (some 99), none, .mov (.t 9), []⟩, ⟨5, (some 100), none, .call (.c (.func (.func 24) #[] #[])) [.t 98, .t 99], []⟩, ⟨6, (some 101), none, .call (.c (.func (.func 22) #[] #[])) [.t 97, .t 100], []⟩, ⟨7, (some 2), none, .mov (.t 101), []⟩]) .ret))))))))))))))
attribute [irreducible] c_culletlaw13_LchDerives
theorem run_culletlaw13_LchDerives {args : List Value} {w : World} {K : Value → World → Prop} (hn : args.length ≤ 102) (h : WP Try.prog c_culletlaw13_LchDerives (endQ [.t 2] K) (initT args) w) : CallV Try.prog 5 args w K :=
  call_of follows Try.func5 (by kernel_rfl) (by kernel_rfl) hn h
end Go.Proofs.Ytcnabolainmaeaa.Fw
namespace Go.Proofs.Ytcnabolainmaeaa.Fw
open Go Go.Fw
theorem culletlaw13_LchDerives_spec (w : World) (s : Value) (l : List (El 16)) (h : Sl w s l) (hb : l.length ≤ 70368744175616) :
    CallV Try.prog 5 [s] w fun v w' => v = .bool true ∧ RowKit.Below w.heap.size w w' := by
  refine run_culletlaw13_LchDerives (by simp) ?_
  simp only [c_culletlaw13_LchDerives, WS, List.getElem_cons_zero, List.getElem_cons_succ, Option.isNone_some, Option.isNone_none, List.getD_cons_zero, List.getD_cons_succ, I.at, atL, atO, atP, evp, evs, retV, ↓reduceIte, Nat.reduceEqDiff, reduceCtorEq]
  refine X_call0 ((culletlaw13_awake_spec w).mono ?_)
  rintro _ w1 ⟨rfl, hB⟩
  have B := hB
  have h := h.up hB
  clear hB
  simp (maxSteps := 1000000) (disch := omega) only [WS, List.getElem_cons_zero, List.getElem_cons_succ, Option.isNone_some, Option.isNone_none, List.getD_cons_zero, List.getD_cons_succ, I.at, atL, atO, atP, evp, evs, retV, ↓reduceIte, Nat.reduceEqDiff, reduceCtorEq, AS]
  refine X_call0 ((culletlaw13_twin_spec w1 s l h hb).mono ?_)
  rintro sd w2 ⟨od, hB⟩
  have od := od.sl
  have h := h.up hB
  have B := B.trans (hB.mono B.size)
  clear hB
  simp (maxSteps := 1000000) (disch := omega) only [WS, List.getElem_cons_zero, List.getElem_cons_succ, Option.isNone_some, Option.isNone_none, List.getD_cons_zero, List.getD_cons_succ, I.at, atL, atO, atP, evp, evs, retV, ↓reduceIte, Nat.reduceEqDiff, reduceCtorEq, AS]
  refine X_call0 ((lch_Derivative_spec w2 sd l od hb).mono ?_)
  rintro _ w3 ⟨hB, ⟨k, hk, hlk, sc, c, rfl, oc, cl, hc⟩ | ⟨hbad, rfl⟩⟩
  rotate_left
  · have h := h.up hB
    have B := B.trans (hB.mono B.size)
    clear hB
    have e3 := bits_and fits_i64 (a := l.length) (b := l.length - 1) (by omega) (by omega)
    by_cases h1 : l.length < 1
    · simp (maxSteps := 1000000) (disch := omega) only [WS, List.getElem_cons_zero, List.getElem_cons_succ, Option.isNone_some, Option.isNone_none, List.getD_cons_zero, List.getD_cons_succ, I.at, atL, atO, atP, evp, evs, retV, ↓reduceIte, Nat.reduceEqDiff, reduceCtorEq, AS, h.Xlen, X_lenS]
      exact B
    by_cases h2 : 65536 < l.length
    · simp (maxSteps := 1000000) (disch := omega) only [WS, List.getElem_cons_zero, List.getElem_cons_succ, Option.isNone_some, Option.isNone_none, List.getD_cons_zero, List.getD_cons_succ, I.at, atL, atO, atP, evp, evs, retV, ↓reduceIte, Nat.reduceEqDiff, reduceCtorEq, AS, h.Xlen, X_lenS]
      exact B
    have h3 : l.length &&& (l.length - 1) ≠ 0 := fun e => hbad ⟨by omega, by omega, e⟩
    have d3 : (!decide (((l.length &&& (l.length - 1) : Nat) : Int) = 0)) = true := by rw [decide_eq_false (by omega)]; rfl
    simp (maxSteps := 1000000) (disch := omega) only [WS, List.getElem_cons_zero, List.getElem_cons_succ, Option.isNone_some, Option.isNone_none, List.getD_cons_zero, List.getD_cons_succ, I.at, atL, atO, atP, evp, evs, retV, ↓reduceIte, Nat.reduceEqDiff, reduceCtorEq, AS, h.Xlen, X_lenS, e3, d3]
    exact B
  have oc := oc.sl
  have h := h.up hB
  have B := B.trans (hB.mono B.size)
  clear hB
  clear od
  have hk16 := pow_le16' hk
  have h0 := Nat.two_pow_pos k
  have e3 := bits_and fits_i64 (a := 2 ^ k) (b := 2 ^ k - 1) (by omega) (by omega)
  rw [and_pred_pow] at e3
  have hbig : c.length ≤ 70368744175616 := by omega
  simp (maxSteps := 1000000) (disch := omega) only [WS, List.getElem_cons_zero, List.getElem_cons_succ, Option.isNone_some, Option.isNone_none, List.getD_cons_zero, List.getD_cons_succ, I.at, atL, atO, atP, evp, evs, retV, ↓reduceIte, Nat.reduceEqDiff, reduceCtorEq, AS, h.Xlen, hlk, e3, oc.Xlen, cl, show (!decide (((0 : Nat) : Int) = 0)) = false from rfl, show (!decide (((2 ^ k : Nat) : Int) = ((2 ^ k : Nat) : Int))) = false by rw [decide_eq_true rfl]; rfl]
  refine X_call0 ((culletlaw13_twin_spec w3 sc c oc hbig).mono ?_)
  rintro sd w4 ⟨od, hB⟩
  have od := od.sl
  have h := h.up hB
  have oc := oc.up hB
  have B := B.trans (hB.mono B.size)
  clear hB
  simp (maxSteps := 1000000) (disch := omega) only [WS, List.getElem_cons_zero, List.getElem_cons_succ, Option.isNone_some, Option.isNone_none, List.getD_cons_zero, List.getD_cons_succ, I.at, atL, atO, atP, evp, evs, retV, ↓reduceIte, Nat.reduceEqDiff, reduceCtorEq, AS]
  refine X_call0 ((lch_Derivative_spec w4 sd c od hbig).mono ?_)
  rintro _ w5 ⟨hB, ⟨k2, -, hlk2, sz, z, rfl, oz, zl, hz⟩ | ⟨hbad, -⟩⟩
  rotate_left
  · exact absurd ⟨by omega, by omega, by rw [cl]; exact and_pred_pow k⟩ hbad
  obtain rfl : k2 = k := (Nat.pow_right_inj (a := 2) (by omega)).1 (hlk2.symm.trans cl)
  have oz := oz.sl
  have h := h.up hB
  have oc := oc.up hB
  have B := B.trans (hB.mono B.size)
  clear hB
  clear od
  have hzz : ∀ j, j < 2 ^ k2 → (co z).c j = 0 := fun j hj => by rw [hz j hj, dX_loc hc j hj, dX_dX k2 _ j hj]
  simp (maxSteps := 1000000) (disch := omega) only [WS, List.getElem_cons_zero, List.getElem_cons_succ, Option.isNone_some, Option.isNone_none, List.getD_cons_zero, List.getD_cons_succ, I.at, atL, atO, atP, evp, evs, retV, ↓reduceIte, Nat.reduceEqDiff, reduceCtorEq, AS, oz.Xlen, zl, show (!decide (((2 ^ k2 : Nat) : Int) = ((2 ^ k2 : Nat) : Int))) = false by rw [decide_eq_true rfl]; rfl]
  refine loop_of (fun t w' => t 0 = s ∧ t 3 = sc ∧ t 5 = .int .i64 ((2 ^ k2 : Nat) : Int) ∧ t 6 = sz ∧ w' = w5 ∧ ∃ j : Nat, t 7 = .int .i64 (j : Int) ∧ j ≤ 2 ^ k2) (fun t _ => 2 ^ k2 - (toI (t 7)).toNat) ⟨by simp only [WS, List.getElem_cons_zero, List.getElem_cons_succ, Option.isNone_some, Option.isNone_none, List.getD_cons_zero, List.getD_cons_succ, I.at, atL, atO, atP, evp, evs, retV, ↓reduceIte, Nat.reduceEqDiff, reduceCtorEq], by simp only [WS, List.getElem_cons_zero, List.getElem_cons_succ, Option.isNone_some, Option.isNone_none, List.getD_cons_zero, List.getD_cons_succ, I.at, atL, atO, atP, evp, evs, retV, ↓reduceIte, Nat.reduceEqDiff, reduceCtorEq], by simp only [WS, List.getElem_cons_zero, List.getElem_cons_succ, Option.isNone_some, Option.isNone_none, List.getD_cons_zero, List.getD_cons_succ, I.at, atL, atO, atP, evp, evs, retV, ↓reduceIte, Nat.reduceEqDiff, reduceCtorEq], by simp only [WS, List.getElem_cons_zero, List.getElem_cons_succ, Option.isNone_some, Option.isNone_none, List.getD_cons_zero, List.getD_cons_succ, I.at, atL, atO, atP, evp, evs, retV, ↓reduceIte, Nat.reduceEqDiff, reduceCtorEq], rfl, 0, rfl, by omega⟩ ?_
  rintro t w6 ⟨t0, t3, t5, t6, rfl, j, t7, hj⟩
  by_cases hjk : j < 2 ^ k2
  · have jz : j < z.length := by omega
    have hz0 : z[j] = 0 := by rw [← co_get z jz, hzz j hjk]
    have d1 : (!decide ((z[j].v.toNat : Int) = 0)) = false := by rw [hz0]; rfl
    simp (maxSteps := 1000000) (disch := omega) only [WS, List.getElem_cons_zero, List.getElem_cons_succ, Option.isNone_some, Option.isNone_none, List.getD_cons_zero, List.getD_cons_succ, I.at, atL, atO, atP, evp, evs, retV, ↓reduceIte, Nat.reduceEqDiff, reduceCtorEq, AS, t0, t3, t5, t6, t7, oz.Xix jz, oz.Xld jz, cell_e16, d1]
    exact ⟨⟨j + 1, rfl, by omega⟩, by omega⟩
  obtain rfl : j = 2 ^ k2 := by omega
  by_cases h256 : 256 < 2 ^ k2
  · simp (maxSteps := 1000000) (disch := omega) only [WS, List.getElem_cons_zero, List.getElem_cons_succ, Option.isNone_some, Option.isNone_none, List.getD_cons_zero, List.getD_cons_succ, I.at, atL, atO, atP, evp, evs, retV, ↓reduceIte, Nat.reduceEqDiff, reduceCtorEq, AS, t0, t3, t5, t6, t7]
    exact B
  have hk8 : k2 ≤ 8 := by
    rcases Nat.lt_or_ge 8 k2 with hlt | hge
    · have := Nat.pow_le_pow_right (show 0 < 2 by omega) hlt
      omega
    · exact hge
  simp (maxSteps := 1000000) (disch := omega) only [WS, List.getElem_cons_zero, List.getElem_cons_succ, Option.isNone_some, Option.isNone_none, List.getD_cons_zero, List.getD_cons_succ, I.at, atL, atO, atP, evp, evs, retV, ↓reduceIte, Nat.reduceEqDiff, reduceCtorEq, AS, t0, t3, t5, t6, t7]
  refine X_call0 ((culletlaw13_twin_spec w6 s l h hb).mono ?_)
  rintro sd w7 ⟨od, hB⟩
  have od := od.sl
  have oc := oc.up hB
  have B := B.trans (hB.mono B.size)
  clear hB
  simp (maxSteps := 1000000) (disch := omega) only [WS, List.getElem_cons_zero, List.getElem_cons_succ, Option.isNone_some, Option.isNone_none, List.getD_cons_zero, List.getD_cons_succ, I.at, atL, atO, atP, evp, evs, retV, ↓reduceIte, Nat.reduceEqDiff, reduceCtorEq, AS, t3]
  refine X_call0 ((lch_ToMonomials_spec w7 sd l od hb).mono ?_)
  rintro _ w8 ⟨hB, ⟨k3, -, hlk3, sf, f, rfl, of, fl, hf⟩ | ⟨hbad, -⟩⟩
  rotate_left
  · exact absurd ⟨by omega, by omega, by rw [hlk]; exact and_pred_pow k2⟩ hbad
  obtain rfl : k3 = k2 := (Nat.pow_right_inj (a := 2) (by omega)).1 (hlk3.symm.trans hlk)
  have of := of.sl
  have oc := oc.up hB
  have B := B.trans (hB.mono B.size)
  clear hB
  clear od
  simp (maxSteps := 1000000) (disch := omega) only [WS, List.getElem_cons_zero, List.getElem_cons_succ, Option.isNone_some, Option.isNone_none, List.getD_cons_zero, List.getD_cons_succ, I.at, atL, atO, atP, evp, evs, retV, ↓reduceIte, Nat.reduceEqDiff, reduceCtorEq, AS, t3]
  refine X_call0 ((culletlaw13_twin_spec w8 sc c oc hbig).mono ?_)
  rintro sd w9 ⟨od, hB⟩
  have od := od.sl
  have of := of.up hB
  have B := B.trans (hB.mono B.size)
  clear hB
  simp (maxSteps := 1000000) (disch := omega) only [WS, List.getElem_cons_zero, List.getElem_cons_succ, Option.isNone_some, Option.isNone_none, List.getD_cons_zero, List.getD_cons_succ, I.at, atL, atO, atP, evp, evs, retV, ↓reduceIte, Nat.reduceEqDiff, reduceCtorEq, AS]
  refine X_call0 ((lch_ToMonomials_spec w9 sd c od hbig).mono ?_)
  rintro _ w10 ⟨hB, ⟨k4, -, hlk4, sg, g, rfl, og, gl, hg⟩ | ⟨hbad, -⟩⟩
  rotate_left
  · exact absurd ⟨by omega, by omega, by rw [cl]; exact and_pred_pow k3⟩ hbad
  obtain rfl : k4 = k3 := (Nat.pow_right_inj (a := 2) (by omega)).1 (hlk4.symm.trans cl)
  have og := og.sl
  have of := of.up hB
  have B := B.trans (hB.mono B.size)
  clear hB
  clear od oc oz h
  simp (maxSteps := 1000000) (disch := omega) only [WS, List.getElem_cons_zero, List.getElem_cons_succ, Option.isNone_some, Option.isNone_none, List.getD_cons_zero, List.getD_cons_succ, I.at, atL, atO, atP, evp, evs, retV, ↓reduceIte, Nat.reduceEqDiff, reduceCtorEq, AS]
  refine X_call0 ((polys_Over16_spec w10).mono ?_)
  rintro r w11 ⟨hr, hB, -⟩
  have of := of.up hB
  have og := og.up hB
  have B := B.trans (hB.mono B.size)
  clear hB
  simp (maxSteps := 1000000) (disch := omega) only [WS, List.getElem_cons_zero, List.getElem_cons_succ, Option.isNone_some, Option.isNone_none, List.getD_cons_zero, List.getD_cons_succ, I.at, atL, atO, atP, evp, evs, retV, ↓reduceIte, Nat.reduceEqDiff, reduceCtorEq, AS]
  refine X_call0 ((polys_Ring_w_Derivative_spec w11 r sf f hr of (by omega)).mono ?_)
  rintro sx w12 ⟨x, ox, tx, cx, xl, hB⟩
  have ox := ox.sl
  have og := og.up hB
  have hr := hr.up hB
  have B := B.trans (hB.mono B.size)
  clear hB
  simp (maxSteps := 1000000) (disch := omega) only [WS, List.getElem_cons_zero, List.getElem_cons_succ, Option.isNone_some, Option.isNone_none, List.getD_cons_zero, List.getD_cons_succ, I.at, atL, atO, atP, evp, evs, retV, ↓reduceIte, Nat.reduceEqDiff, reduceCtorEq, AS]
  refine X_call0 ((polys_Ring_w_Trim_spec w12 r sg g hr og (by omega)).mono ?_)
  rintro sy w13 ⟨oy, hB⟩
  have oy := oy.sl
  have ox := ox.up hB
  have B := B.trans (hB.mono B.size)
  clear hB
  have hty := tln_le g
  have heq : x = tr g := tr_inj tx (tr_tr g) (by rw [cx, hf, mP_D, tr_co, hg]; exact (mP_congr fun j hj => hc j hj).symm)
  simp (maxSteps := 1000000) (disch := omega) only [WS, List.getElem_cons_zero, List.getElem_cons_succ, Option.isNone_some, Option.isNone_none, List.getD_cons_zero, List.getD_cons_succ, I.at, atL, atO, atP, evp, evs, retV, ↓reduceIte, Nat.reduceEqDiff, reduceCtorEq, AS]
  refine X_call0 ((culletlaw13_same_spec w13 sx sy x (tr g) ox oy (by omega) (by rw [tr_len]; omega)).mono ?_)
  rintro _ w14 ⟨rfl, hk⟩
  have hB := hk.1
  have B := B.trans (hB.mono B.size)
  clear hB
  rw [decide_eq_true heq]
  simp (maxSteps := 1000000) (disch := omega) only [WS, List.getElem_cons_zero, List.getElem_cons_succ, Option.isNone_some, Option.isNone_none, List.getD_cons_zero, List.getD_cons_succ, I.at, atL, atO, atP, evp, evs, retV, ↓reduceIte, Nat.reduceEqDiff, reduceCtorEq, AS]
  exact B
end Go.Proofs.Ytcnabolainmaeaa.Fw
