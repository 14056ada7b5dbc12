import Derived.Test.YtcnabolainmaeaaProg
import Derived.Test.YtcnabolainmaeaaFwTB
import Derived.Test.YtcnabolainmaeaaSS13fB
set_option linter.all false
set_option linter.unusedVariables false
set_option linter.unusedSimpArgs false
set_option maxRecDepth 100000
set_option maxHeartbeats 1000000
namespace Go.Proofs.Ytcnabolainmaeaa.Fw
open Go Go.Fw Go.Proofs
attribute [local irreducible] stepI
def c_culletlaw13_LchBack : C := .seq (.ops [⟨0, (some 4), none, .mov (.c (.bool false)), []⟩]) (.seq (.seq (.ops [⟨0, (some 13), none, .call (.c (.func (.func 12) #[] #[])) [], []⟩, ⟨1, (some 14), none, .un .not (.t 13), []⟩]) (.ite (.t 14) (.seq (.ops [⟨0, (some 4), none, .mov (.c (.bool false)), []⟩]) .ret) .skip)) (.seq (.ops [⟨0, (some 16), none, .mov (.t 0), []⟩, ⟨1, (some 17), none, .call (.c (.func (.func 19) #[] #[])) [.t 16], []⟩, ⟨2, (some 18), none, .call (.c (.func (.func 20) #[] #[])) [.t 17], []⟩, ⟨3, (some 15), none, .mov (.t 18), []⟩, ⟨4, (some 19), none, .ext (.t 15) 0, []⟩, ⟨5, (some 20), none, .ext (.t 15) 1, []⟩, ⟨6, (some 5), none, .mov (.t 19), []⟩, ⟨7, (some 6), none, .mov (.t 20), []⟩]) (.seq (.ops [⟨0, (some 22), none, .mov (.t 0), []⟩, ⟨1, (some 23), none, .call (.c (.func (.func 19) #[] #[])) [.t 22], []⟩, ⟨2, (some 24), none, .call (.c (.func (.func 25) #[] #[])) [.t 23], []⟩, ⟨3, (some 21), none, .mov (.t 24), []⟩, ⟨4, (some 25), none, .ext (.t 21) 0, []⟩, ⟨5, (some 26), none, .ext (.t 21) 1, []⟩, ⟨6, (some 7), none, .mov (.t 25), []⟩, ⟨7, (some 8), none, .mov (.t 26), []⟩]) (.seq (.ops [⟨0, (some 27), none, .mov (.t 0), []⟩, ⟨1, (some 28), none, .len (.t 27), []⟩, ⟨2, (some 9), none, .mov (.t 28), []⟩]) (.seq (.seq (.ops [⟨0, (some 29), none, .mov (.t 9), []⟩, ⟨1, (some 30), none, .bin .lss (.t 29) (.c (.int .i64 1)), []⟩, ⟨2, (some 31), none, .mov (.t 30), []⟩, ⟨3, (some 32), (some (31, false)), .mov (.t 9), []⟩, ⟨4, (some 33), (some (31, false)), .bin .gtr (.t 32) (.c (.int .i64 256)), []⟩, ⟨5, (some 34), none, .pick (.t 31) (.c (.bool true)) (.t 33), []⟩, ⟨6, (some 35), none, .mov (.t 34), []⟩, ⟨7, (some 36), (some (35, false)), .mov (.t 9), []⟩, ⟨8, (some 37), (some (35, false)), .mov (.t 9), []⟩, ⟨9, (some 38), (some (35, false)), .bin .sub (.t 37) (.c (.int .i64 1)), []⟩, ⟨10, (some 39), (some (35, false)), .bin .and (.t 36) (.t 38), []⟩, ⟨11, (some 40), (some (35, false)), .bin .neq (.t 39) (.c (.int .i64 0)), []⟩, ⟨12, (some 41), none, .pick (.t 35) (.c (.bool true)) (.t 40), []⟩]) (.ite (.t 41) (.seq (.ops [⟨0, (some 42), none, .mov (.t 5), []⟩, ⟨1, (some 43), none, .len (.t 42), []⟩, ⟨2, (some 44), none, .bin .eql (.t 43) (.c (.int .i64 0)), []⟩, ⟨3, (some 45), none, .mov (.t 44), []⟩, ⟨4, (some 46), (some (45, true)), .mov (.t 7), []⟩, ⟨5, (some 47), (some (45, true)), .len (.t 46), []⟩, ⟨6, (some 48), (some (45, true)), .bin .eql (.t 47) (.c (.int .i64 0)), []⟩, ⟨7, (some 49), none, .pick (.t 45) (.t 48) (.c (.bool false)), []⟩, ⟨8, (some 50), none, .mov (.t 49), []⟩, ⟨9, (some 51), (some (50, true)), .mov (.t 6), []⟩, ⟨10, (some 52), (some (50, true)), .bin .eql (.t 51) (.c (.int .i64 130)), []⟩, ⟨11, (some 53), none, .pick (.t 50) (.t 52) (.c (.bool false)), []⟩, ⟨12, (some 54), none, .mov (.t 53), []⟩, ⟨13, (some 55), (some (54, true)), .mov (.t 8), []⟩, ⟨14, (some 56), (some (54, true)), .bin .eql (.t 55) (.c (.int .i64 130)), []⟩, ⟨15, (some 57), none, .pick (.t 54) (.t 56) (.c (.bool false)), []⟩, ⟨16, (some 4), none, .mov (.t 57), []⟩]) .ret) .skip)) (.seq (.seq (.ops [⟨0, (some 58), none, .mov (.t 6), []⟩, ⟨1, (some 59), none, .bin .neq (.t 58) (.c (.int .i64 0)), []⟩, ⟨2, (some 60), none, .mov (.t 59), []⟩, ⟨3, (some 61), (some (60, false)), .mov (.t 8), []⟩, ⟨4, (some 62), (some (60, false)), .bin .neq (.t 61) (.c (.int .i64 0)), []⟩, ⟨5, (some 63), none, .pick (.t 60) (.c (.bool true)) (.t 62), []⟩, ⟨6, (some 64), none, .mov (.t 63), []⟩, ⟨7, (some 65), (some (64, false)), .mov (.t 5), []⟩, ⟨8, (some 66), (some (64, false)), .len (.t 65), []⟩, ⟨9, (some 67), (some (64, false)), .mov (.t 9), []⟩, ⟨10, (some 68), (some (64, false)), .bin .neq (.t 66) (.t 67), []⟩, ⟨11, (some 69), none, .pick (.t 64) (.c (.bool true)) (.t 68), []⟩, ⟨12, (some 70), none, .mov (.t 69), []⟩, ⟨13, (some 71), (some (70, false)), .mov (.t 7), []⟩, ⟨14, (some 72), (some (70, false)), .len (.t 71), []⟩, ⟨15, (some 73), (some (70, false)), .mov (.t 9), []⟩, ⟨16, (some 74), (some (70, false)), .bin .neq (.t 72) (.t 73), []⟩, ⟨17, (some 75), none, .pick (.t 70) (.c (.bool true)) (.t 74), []⟩]) (.ite (.t 75) (.seq (.ops [⟨0, (some 4), none, .mov (.c (.bool false)), []⟩]) .ret) .skip)) (.seq (.ops [⟨0, (some 77), none, .mov (.t 5), []⟩, ⟨1, (some 78), none, .call (.c (.func (.func 19) #[] #[])) [.t 77], []⟩, ⟨2, (some 79), none, .call (.c (.func (.func 25) #[] #[])) [.t 78], []⟩, ⟨3, (some 76), none, .mov (.t 79), []⟩, ⟨4, (some 80), none, .ext (.t 76) 0, []⟩, ⟨5, (some 81), none, .ext (.t 76) 1, []⟩, ⟨6, (some 10), none, .mov (.t 80), []⟩, ⟨7, (some 6), none, .mov (.t 81), []⟩]) (.seq (.ops [⟨0, (some 83), none, .mov (.t 7), []⟩, ⟨1, (some 84), none, .call (.c (.func (.func 19) #[] #[])) [.t 83], []⟩, ⟨2, (some 85), none, .call (.c (.func (.func 20) #[] #[])) [.t 84], []⟩, ⟨3, (some 82), none, .mov (.t 85), []⟩, ⟨4, (some 86), none, .ext (.t 82) 0, []⟩, ⟨5, (some 87), none, .ext (.t 82) 1, []⟩, ⟨6, (some 11), none, .mov (.t 86), []⟩, ⟨7, (some 8), none, .mov (.t 87), []⟩]) (.seq (.seq (.ops [⟨0, (some 88), none, .mov (.t 6), []⟩, ⟨1, (some 89), none, .bin .neq (.t 88) (.c (.int .i64 0)), []⟩, ⟨2, (some 90), none, .mov (.t 89), []⟩, ⟨3, (some 91), (some (90, false)), .mov (.t 8), []⟩, ⟨4, (some 92), (some (90, false)), .bin .neq (.t 91) (.c (.int .i64 0)), []⟩, ⟨5, (some 93), none, .pick (.t 90) (.c (.bool true)) (.t 92), []⟩, ⟨6, (some 94), none, .mov (.t 93), []⟩, ⟨7, (some 95), (some (94, false)), .mov (.t 10), []⟩, ⟨8, (some 96), (some (94, false)), .mov (.t 0), []⟩, ⟨9, (some 97), (some (94, false)), .call (.c (.func (.func 22) #[] #[])) [.t 95, .t 96], []⟩, ⟨10, (some 98), (some (94, false)), .un .not (.t 97), []⟩, ⟨11, (some 99), none, .pick (.t 94) (.c (.bool true)) (.t 98), []⟩, ⟨12, (some 100), none, .mov (.t 99), []⟩, ⟨13, (some 101), (some (100, false)), .mov (.t 11), []⟩, ⟨14, (some 102), (some (100, false)), .mov (.t 0), []⟩, ⟨15, (some 103), (some (100, false)), .call (.c (.func (.func 22) #[] #[])) [.t 101, .t 102], []⟩, ⟨16, (some 104), (some (100, false)), .un .not (.t 103), []⟩, ⟨17, (some 105), none, .pick (.t 100) (.c (.bool true)) (.t 104), []⟩]) (.ite (.t 105) (.seq (.ops [⟨0, (some 4), none, .mov (.c (.bool false)), []⟩]) .ret) .skip)) (.seq (.ops [⟨0, (some 107), none, .mov (.t 0), []⟩, ⟨1, (some 108), none, .call (.c (.func (.func 19) #[] #[])) [.t 107], []⟩, ⟨2, (some 109), none, .mov (.t 1), []⟩, ⟨3, (some 110), none, .call (.c (.func (.func 26) #[] #[])) [.t 108, .t 109], []⟩, ⟨4, (some 106), none, .mov (.t 110), []⟩, ⟨5, (some 111), none, .ext (.t 106) 0, []⟩, ⟨6, (some 112), none, .ext (.t 106) 1, []⟩, ⟨7, (some 12), none, .mov (.t 111), []⟩, ⟨8, (some 6), none, .mov (.t 112), []⟩]) (.seq (.ops [⟨0, (some 113), none, .mov (.t 6), []⟩, ⟨1, (some 114), none, .bin .eql (.t 113) (.c (.int .i64 0)), []⟩, ⟨2, (some 115), none, .mov (.t 114), []⟩, ⟨3, (some 116), (some (115, true)), .mov (.t 12), []⟩, ⟨4, (some 117), (some (115, true)), .call (.c (.func (.func 21) #[] #[])) [], []⟩, ⟨5, (some 118), (some (115, true)), .mov (.t 5), []⟩, ⟨6, (some 119), (some (115, true)), .mov (.t 1), []⟩, ⟨7, (some 120), (some (115, true)), .call (.c (.func (.func 29) #[] #[])) [.t 117, .t 118, .t 119], []⟩, ⟨8, (some 121), (some (115, true)), .bin .eql (.t 116) (.t 120), []⟩, ⟨9, (some 122), none, .pick (.t 115) (.t 121) (.c (.bool false)), []⟩, ⟨10, (some 4), none, .mov (.t 122), []⟩]) .ret)))))))))))
attribute [irreducible] c_culletlaw13_LchBack
theorem run_culletlaw13_LchBack {args : List Value} {w : World} {K : Value → World → Prop} (hn : args.length ≤ 123) (h : WP Try.prog c_culletlaw13_LchBack (endQ [.t 4] K) (initT args) w) : CallV Try.prog 8 args w K :=
  call_of follows Try.func8 (by kernel_rfl) (by kernel_rfl) hn h
end Go.Proofs.Ytcnabolainmaeaa.Fw
namespace Go.Proofs.Ytcnabolainmaeaa.Fw
open Go Go.Fw
theorem culletlaw13_LchBack_spec (w : World) (s : Value) (l : List (El 16)) (x : El 16) (h : Sl w s l) (hb : l.length ≤ 70368744175616) :
    CallV Try.prog 8 [s, .int .u16 (x.v.toNat : Int)] w fun v w' => v = .bool true ∧ RowKit.Below w.heap.size w w' := by
  refine run_culletlaw13_LchBack (by simp) ?_
  simp only [c_culletlaw13_LchBack, WS, List.getElem_cons_zero, List.getElem_cons_succ, Option.isNone_some, Option.isNone_none, List.getD_cons_zero, List.getD_cons_succ, I.at, atL, atO, atP, evp, evs, retV, ↓reduceIte, Nat.reduceEqDiff, reduceCtorEq]
  refine X_call0 ((culletlaw13_awake_spec w).mono ?_)
  rintro _ w1 ⟨rfl, hB⟩
  have B := hB
  have h := h.up hB
  clear hB
  simp (maxSteps := 1000000) (disch := omega) only [WS, List.getElem_cons_zero, List.getElem_cons_succ, Option.isNone_some, Option.isNone_none, List.getD_cons_zero, List.getD_cons_succ, I.at, atL, atO, atP, evp, evs, retV, ↓reduceIte, Nat.reduceEqDiff, reduceCtorEq, AS]
  refine X_call0 ((culletlaw13_twin_spec w1 s l h hb).mono ?_)
  rintro sd w2 ⟨od, hB⟩
  have od := od.sl
  have h := h.up hB
  have B := B.trans (hB.mono B.size)
  clear hB
  simp (maxSteps := 1000000) (disch := omega) only [WS, List.getElem_cons_zero, List.getElem_cons_succ, Option.isNone_some, Option.isNone_none, List.getD_cons_zero, List.getD_cons_succ, I.at, atL, atO, atP, evp, evs, retV, ↓reduceIte, Nat.reduceEqDiff, reduceCtorEq, AS]
  refine X_call0 ((lch_ToMonomials_spec w2 sd l od hb).mono ?_)
  rintro _ w3 ⟨hB, ⟨k, hk, hlk, sf, f, rfl, of, fl, hf⟩ | ⟨hbad, rfl⟩⟩
  rotate_left
  · have h := h.up hB
    have B := B.trans (hB.mono B.size)
    clear hB
    simp (maxSteps := 1000000) (disch := omega) only [WS, List.getElem_cons_zero, List.getElem_cons_succ, Option.isNone_some, Option.isNone_none, List.getD_cons_zero, List.getD_cons_succ, I.at, atL, atO, atP, evp, evs, retV, ↓reduceIte, Nat.reduceEqDiff, reduceCtorEq, AS]
    refine X_call0 ((culletlaw13_twin_spec w3 s l h hb).mono ?_)
    rintro sd w4 ⟨od, hB⟩
    have od := od.sl
    have h := h.up hB
    have B := B.trans (hB.mono B.size)
    clear hB
    simp (maxSteps := 1000000) (disch := omega) only [WS, List.getElem_cons_zero, List.getElem_cons_succ, Option.isNone_some, Option.isNone_none, List.getD_cons_zero, List.getD_cons_succ, I.at, atL, atO, atP, evp, evs, retV, ↓reduceIte, Nat.reduceEqDiff, reduceCtorEq, AS]
    refine X_call0 ((lch_FromMonomials_spec w4 sd l od hb).mono ?_)
    rintro _ w5 ⟨hB, ⟨k, hk, hlk, sf, f, rfl, of, fl, hf⟩ | ⟨-, rfl⟩⟩
    · refine absurd ⟨?_, ?_, by rw [hlk]; exact and_pred_pow k⟩ hbad
      · have := Nat.two_pow_pos k; omega
      · rw [hlk]; have : 2 ^ k ≤ 2 ^ 8 := Nat.pow_le_pow_right (by omega) hk
        omega
    have h := h.up hB
    have B := B.trans (hB.mono B.size)
    clear hB
    have e3 := bits_and fits_i64 (a := l.length) (b := l.length - 1) (by omega) (by omega)
    by_cases h1 : l.length < 1
    · simp (maxSteps := 1000000) (disch := omega) only [WS, List.getElem_cons_zero, List.getElem_cons_succ, Option.isNone_some, Option.isNone_none, List.getD_cons_zero, List.getD_cons_succ, I.at, atL, atO, atP, evp, evs, retV, ↓reduceIte, Nat.reduceEqDiff, reduceCtorEq, AS, h.Xlen, X_lenS]
      exact B
    by_cases h2 : 256 < l.length
    · simp (maxSteps := 1000000) (disch := omega) only [WS, List.getElem_cons_zero, List.getElem_cons_succ, Option.isNone_some, Option.isNone_none, List.getD_cons_zero, List.getD_cons_succ, I.at, atL, atO, atP, evp, evs, retV, ↓reduceIte, Nat.reduceEqDiff, reduceCtorEq, AS, h.Xlen, X_lenS]
      exact B
    have h3 : l.length &&& (l.length - 1) ≠ 0 := fun e => hbad ⟨by omega, by omega, e⟩
    have d3 : (!decide (((l.length &&& (l.length - 1) : Nat) : Int) = 0)) = true := by rw [decide_eq_false (by omega)]; rfl
    simp (maxSteps := 1000000) (disch := omega) only [WS, List.getElem_cons_zero, List.getElem_cons_succ, Option.isNone_some, Option.isNone_none, List.getD_cons_zero, List.getD_cons_succ, I.at, atL, atO, atP, evp, evs, retV, ↓reduceIte, Nat.reduceEqDiff, reduceCtorEq, AS, h.Xlen, X_lenS, e3, d3]
    exact B
  have of := of.sl
  have h := h.up hB
  have B := B.trans (hB.mono B.size)
  clear hB
  clear od
  have h8 : 2 ^ k ≤ 256 := by have : 2 ^ k ≤ 2 ^ 8 := Nat.pow_le_pow_right (by omega) hk; omega
  have h0 := Nat.two_pow_pos k
  have e3 := bits_and fits_i64 (a := 2 ^ k) (b := 2 ^ k - 1) (by omega) (by omega)
  rw [and_pred_pow] at e3
  have dk : (!decide (((2 ^ k : Nat) : Int) = ((2 ^ k : Nat) : Int))) = false := by rw [decide_eq_true rfl]; rfl
  have d0 : (!decide (((0 : Nat) : Int) = 0)) = false := rfl
  have ok : ∀ m : List (El 16), m.length = 2 ^ k → 1 ≤ m.length ∧ m.length ≤ 256 ∧ m.length &&& (m.length - 1) = 0 := fun m hm => ⟨by omega, by omega, by rw [hm]; exact and_pred_pow k⟩
  have pk : ∀ {k2 : Nat} {n : Nat}, n = 2 ^ k2 → n = 2 ^ k → k2 = k := fun h1 h2 => (Nat.pow_right_inj (a := 2) (by omega)).1 (h1.symm.trans h2)
  simp (maxSteps := 1000000) (disch := omega) only [WS, List.getElem_cons_zero, List.getElem_cons_succ, Option.isNone_some, Option.isNone_none, List.getD_cons_zero, List.getD_cons_succ, I.at, atL, atO, atP, evp, evs, retV, ↓reduceIte, Nat.reduceEqDiff, reduceCtorEq, AS]
  refine X_call0 ((culletlaw13_twin_spec w3 s l h hb).mono ?_)
  rintro sd w4 ⟨od, hB⟩
  have od := od.sl
  have h := h.up hB
  have of := of.up hB
  have B := B.trans (hB.mono B.size)
  clear hB
  simp (maxSteps := 1000000) (disch := omega) only [WS, List.getElem_cons_zero, List.getElem_cons_succ, Option.isNone_some, Option.isNone_none, List.getD_cons_zero, List.getD_cons_succ, I.at, atL, atO, atP, evp, evs, retV, ↓reduceIte, Nat.reduceEqDiff, reduceCtorEq, AS]
  refine X_call0 ((lch_FromMonomials_spec w4 sd l od hb).mono ?_)
  rintro _ w5 ⟨hB, ⟨k2, -, hlk2, sg, g, rfl, og, gl, hg⟩ | ⟨hbad, -⟩⟩
  rotate_left
  · exact absurd (ok l hlk) hbad
  obtain rfl := pk hlk2 hlk
  have og := og.sl
  have h := h.up hB
  have of := of.up hB
  have B := B.trans (hB.mono B.size)
  clear hB
  clear od
  simp (maxSteps := 1000000) (disch := omega) only [WS, List.getElem_cons_zero, List.getElem_cons_succ, Option.isNone_some, Option.isNone_none, List.getD_cons_zero, List.getD_cons_succ, I.at, atL, atO, atP, evp, evs, retV, ↓reduceIte, Nat.reduceEqDiff, reduceCtorEq, AS, h.Xlen, hlk, e3, d0, of.Xlen, fl, og.Xlen, gl, dk]
  refine X_call0 ((culletlaw13_twin_spec w5 sf f of (by omega)).mono ?_)
  rintro sd w6 ⟨od, hB⟩
  have od := od.sl
  have h := h.up hB
  have of := of.up hB
  have og := og.up hB
  have B := B.trans (hB.mono B.size)
  clear hB
  simp (maxSteps := 1000000) (disch := omega) only [WS, List.getElem_cons_zero, List.getElem_cons_succ, Option.isNone_some, Option.isNone_none, List.getD_cons_zero, List.getD_cons_succ, I.at, atL, atO, atP, evp, evs, retV, ↓reduceIte, Nat.reduceEqDiff, reduceCtorEq, AS]
  refine X_call0 ((lch_FromMonomials_spec w6 sd f od (by omega)).mono ?_)
  rintro _ w7 ⟨hB, ⟨k3, -, hlk3, sa, a, rfl, oa, al, ha⟩ | ⟨hbad, -⟩⟩
  rotate_left
  · exact absurd (ok f fl) hbad
  obtain rfl := pk hlk3 fl
  have oa := oa.sl
  have h := h.up hB
  have of := of.up hB
  have og := og.up hB
  have B := B.trans (hB.mono B.size)
  clear hB
  clear od
  simp (maxSteps := 1000000) (disch := omega) only [WS, List.getElem_cons_zero, List.getElem_cons_succ, Option.isNone_some, Option.isNone_none, List.getD_cons_zero, List.getD_cons_succ, I.at, atL, atO, atP, evp, evs, retV, ↓reduceIte, Nat.reduceEqDiff, reduceCtorEq, AS]
  refine X_call0 ((culletlaw13_twin_spec w7 sg g og (by omega)).mono ?_)
  rintro sd w8 ⟨od, hB⟩
  have od := od.sl
  have h := h.up hB
  have of := of.up hB
  have oa := oa.up hB
  have B := B.trans (hB.mono B.size)
  clear hB
  simp (maxSteps := 1000000) (disch := omega) only [WS, List.getElem_cons_zero, List.getElem_cons_succ, Option.isNone_some, Option.isNone_none, List.getD_cons_zero, List.getD_cons_succ, I.at, atL, atO, atP, evp, evs, retV, ↓reduceIte, Nat.reduceEqDiff, reduceCtorEq, AS]
  refine X_call0 ((lch_ToMonomials_spec w8 sd g od (by omega)).mono ?_)
  rintro _ w9 ⟨hB, ⟨k4, -, hlk4, sb, b, rfl, ob, bl, hb4⟩ | ⟨hbad, -⟩⟩
  rotate_left
  · exact absurd (ok g gl) hbad
  obtain rfl := pk hlk4 gl
  have ob := ob.sl
  have h := h.up hB
  have of := of.up hB
  have oa := oa.up hB
  have B := B.trans (hB.mono B.size)
  clear hB
  clear od og
  have ea : a = l := co_ext (al.trans hlk.symm) (by
    have h1 := mP_inj (Nat.le_refl _) (ha.trans hf)
    refine Ps.ext fun i => ?_
    by_cases hi : i < 2 ^ k4
    · exact h1 i hi
    · rw [co_dg a i (by omega), co_dg l i (by omega)])
  have eb : b = l := co_ext (bl.trans hlk.symm) (hb4.trans hg)
  simp (maxSteps := 1000000) (disch := omega) only [WS, List.getElem_cons_zero, List.getElem_cons_succ, Option.isNone_some, Option.isNone_none, List.getD_cons_zero, List.getD_cons_succ, I.at, atL, atO, atP, evp, evs, retV, ↓reduceIte, Nat.reduceEqDiff, reduceCtorEq, AS]
  refine X_call0 ((culletlaw13_same_spec w9 sa s a l oa h (by omega) (by omega)).mono ?_)
  rintro _ w10 ⟨rfl, hk1⟩
  have hB := hk1.1
  have h := h.up hB
  have of := of.up hB
  have ob := ob.up hB
  have B := B.trans (hB.mono B.size)
  clear hB
  clear hk1
  rw [decide_eq_true ea]
  simp (maxSteps := 1000000) (disch := omega) only [WS, List.getElem_cons_zero, List.getElem_cons_succ, Option.isNone_some, Option.isNone_none, List.getD_cons_zero, List.getD_cons_succ, I.at, atL, atO, atP, evp, evs, retV, ↓reduceIte, Nat.reduceEqDiff, reduceCtorEq, AS]
  refine X_call0 ((culletlaw13_same_spec w10 sb s b l ob h (by omega) (by omega)).mono ?_)
  rintro _ w11 ⟨rfl, hk1⟩
  have hB := hk1.1
  have h := h.up hB
  have of := of.up hB
  have B := B.trans (hB.mono B.size)
  clear hB
  clear hk1
  rw [decide_eq_true eb]
  simp (maxSteps := 1000000) (disch := omega) only [WS, List.getElem_cons_zero, List.getElem_cons_succ, Option.isNone_some, Option.isNone_none, List.getD_cons_zero, List.getD_cons_succ, I.at, atL, atO, atP, evp, evs, retV, ↓reduceIte, Nat.reduceEqDiff, reduceCtorEq, AS]
  refine X_call0 ((culletlaw13_twin_spec w11 s l h hb).mono ?_)
  rintro sd w12 ⟨od, hB⟩
  have od := od.sl
  have of := of.up hB
  have B := B.trans (hB.mono B.size)
  clear hB
  simp (maxSteps := 1000000) (disch := omega) only [WS, List.getElem_cons_zero, List.getElem_cons_succ, Option.isNone_some, Option.isNone_none, List.getD_cons_zero, List.getD_cons_succ, I.at, atL, atO, atP, evp, evs, retV, ↓reduceIte, Nat.reduceEqDiff, reduceCtorEq, AS]
  refine X_call0 ((lch_Eval_spec w12 sd l x od hb).mono ?_)
  rintro _ w13 ⟨hB, ⟨hbad, -⟩ | ⟨-, rfl⟩⟩
  · omega
  have of := of.up hB
  have B := B.trans (hB.mono B.size)
  clear hB
  simp (maxSteps := 1000000) (disch := omega) only [WS, List.getElem_cons_zero, List.getElem_cons_succ, Option.isNone_some, Option.isNone_none, List.getD_cons_zero, List.getD_cons_succ, I.at, atL, atO, atP, evp, evs, retV, ↓reduceIte, Nat.reduceEqDiff, reduceCtorEq, AS]
  refine X_call0 ((polys_Over16_spec w13).mono ?_)
  rintro r w14 ⟨hr, hB, -⟩
  have of := of.up hB
  have B := B.trans (hB.mono B.size)
  clear hB
  simp (maxSteps := 1000000) (disch := omega) only [WS, List.getElem_cons_zero, List.getElem_cons_succ, Option.isNone_some, Option.isNone_none, List.getD_cons_zero, List.getD_cons_succ, I.at, atL, atO, atP, evp, evs, retV, ↓reduceIte, Nat.reduceEqDiff, reduceCtorEq, AS]
  refine X_call0 ((polys_Ring_w_Eval_spec w14 r sf f x hr of (by omega)).mono ?_)
  rintro _ w15 ⟨rfl, hB⟩
  have B := B.trans (hB.mono B.size)
  clear hB
  have hev : evX 16 l.length (co l).c x = evl f x := by
    rw [evl_co, hf, mP_ev (co l).c x _ _ (Nat.le_refl _) (by omega), hlk]
    have := evX_k (k := k4) (e := 16 - k4) (f := (co l).c) (x := x) (Nat.le_refl (2 ^ k4))
    rwa [show k4 + (16 - k4) = 16 by omega] at this
  rw [hev]
  simp (maxSteps := 1000000) (disch := omega) only [WS, List.getElem_cons_zero, List.getElem_cons_succ, Option.isNone_some, Option.isNone_none, List.getD_cons_zero, List.getD_cons_succ, I.at, atL, atO, atP, evp, evs, retV, ↓reduceIte, Nat.reduceEqDiff, reduceCtorEq, AS, show decide (((evl f x).v.toNat : Int) = ((evl f x).v.toNat : Int)) = true from decide_eq_true rfl]
  exact B
end Go.Proofs.Ytcnabolainmaeaa.Fw
