import Derived.Test.YtcnabolainmaeaaProg
import Derived.Test.YtcnabolainmaeaaFwTN
import Derived.Test.YtcnabolainmaeaaSS13fN
set_option linter.all false
set_option linter.unusedVariables false
set_option linter.unusedSimpArgs false
set_option maxRecDepth 100000
set_option maxHeartbeats 1000000
namespace Go.Proofs.Ytcnabolainmaeaa.Fw
open Go Go.Fw Go.Proofs
attribute [local irreducible] stepI
def c_culletlaw13_LchNames : C := .seq (.ops [⟨0, (some 0), none, .mov (.c (.bool false)), []⟩]) (.seq (.ite (.c (.bool false)) (.seq (.ops [⟨0, (some 0), none, .mov (.c (.bool false)), []⟩]) .ret) .skip) (.seq (.ite (.c (.bool false)) (.seq (.ops [⟨0, (some 0), none, .mov (.c (.bool false)), []⟩]) .ret) .skip) (.seq (.ops [⟨0, (some 12), none, .mks 22 2 [.int .u16 0] (.c (.int .i64 512)) (.c (.int .i64 512)), []⟩, ⟨1, (some 13), none, .call (.c (.func (.func 20) #[] #[])) [.t 12], []⟩, ⟨2, (some 11), none, .mov (.t 13), []⟩, ⟨3, (some 14), none, .ext (.t 11) 0, []⟩, ⟨4, (some 15), none, .ext (.t 11) 1, []⟩, ⟨5, (some 1), none, .mov (.t 14), []⟩, ⟨6, (some 2), none, .mov (.t 15), []⟩]) (.seq (.ops [⟨0, (some 17), none, .mks 22 2 [.int .u16 0] (.c (.int .i64 256)) (.c (.int .i64 256)), []⟩, ⟨1, (some 18), none, .call (.c (.func (.func 25) #[] #[])) [.t 17], []⟩, ⟨2, (some 16), none, .mov (.t 18), []⟩, ⟨3, (some 19), none, .ext (.t 16) 0, []⟩, ⟨4, (some 20), none, .ext (.t 16) 1, []⟩, ⟨5, (some 3), none, .mov (.t 19), []⟩, ⟨6, (some 4), none, .mov (.t 20), []⟩]) (.seq (.ops [⟨0, (some 22), none, .mks 22 2 [.int .u16 0] (.c (.int .i64 65537)) (.c (.int .i64 65537)), []⟩, ⟨1, (some 23), none, .call (.c (.func (.func 26) #[] #[])) [.t 22, .c (.int .u16 1)], []⟩, ⟨2, (some 21), none, .mov (.t 23), []⟩, ⟨3, (some 24), none, .ext (.t 21) 0, []⟩, ⟨4, (some 25), none, .ext (.t 21) 1, []⟩, ⟨5, (some 5), none, .mov (.t 24), []⟩, ⟨6, (some 6), none, .mov (.t 25), []⟩]) (.seq (.ops [⟨0, (some 27), none, .mks 22 2 [.int .u16 0] (.c (.int .i64 131072)) (.c (.int .i64 131072)), []⟩, ⟨1, (some 28), none, .call (.c (.func (.func 18) #[] #[])) [.t 27], []⟩, ⟨2, (some 26), none, .mov (.t 28), []⟩, ⟨3, (some 29), none, .ext (.t 26) 0, []⟩, ⟨4, (some 30), none, .ext (.t 26) 1, []⟩, ⟨5, (some 7), none, .mov (.t 29), []⟩, ⟨6, (some 8), none, .mov (.t 30), []⟩]) (.seq (.ops [⟨0, (some 32), none, .mks 22 2 [.int .u16 0] (.c (.int .i64 65536)) (.c (.int .i64 65536)), []⟩, ⟨1, (some 33), none, .call (.c (.func (.func 18) #[] #[])) [.t 32], []⟩, ⟨2, (some 31), none, .mov (.t 33), []⟩, ⟨3, (some 34), none, .ext (.t 31) 0, []⟩, ⟨4, (some 35), none, .ext (.t 31) 1, []⟩, ⟨5, (some 9), none, .mov (.t 34), []⟩, ⟨6, (some 10), none, .mov (.t 35), []⟩]) (.seq (.ops [⟨0, (some 36), none, .mov (.t 2), []⟩, ⟨1, (some 37), none, .bin .eql (.t 36) (.c (.int .i64 130)), []⟩, ⟨2, (some 38), none, .mov (.t 37), []⟩, ⟨3, (some 39), (some (38, true)), .mov (.t 4), []⟩, ⟨4, (some 40), (some (38, true)), .bin .eql (.t 39) (.c (.int .i64 0)), []⟩, ⟨5, (some 41), none, .pick (.t 38) (.t 40) (.c (.bool false)), []⟩, ⟨6, (some 42), none, .mov (.t 41), []⟩, ⟨7, (some 43), (some (42, true)), .mov (.t 3), []⟩, ⟨8, (some 44), (some (42, true)), .len (.t 43), []⟩, ⟨9, (some 45), (some (42, true)), .bin .eql (.t 44) (.c (.int .i64 256)), []⟩, ⟨10, (some 46), none, .pick (.t 42) (.t 45) (.c (.bool false)), []⟩, ⟨11, (some 47), none, .mov (.t 46), []⟩, ⟨12, (some 48), (some (47, true)), .mov (.t 6), []⟩, ⟨13, (some 49), (some (47, true)), .bin .eql (.t 48) (.c (.int .i64 5)), []⟩, ⟨14, (some 50), none, .pick (.t 47) (.t 49) (.c (.bool false)), []⟩, ⟨15, (some 51), none, .mov (.t 50), []⟩, ⟨16, (some 52), (some (51, true)), .mov (.t 8), []⟩, ⟨17, (some 53), (some (51, true)), .bin .eql (.t 52) (.c (.int .i64 130)), []⟩, ⟨18, (some 54), none, .pick (.t 51) (.t 53) (.c (.bool false)), []⟩, ⟨19, (some 55), none, .mov (.t 54), []⟩, ⟨20, (some 56), (some (55, true)), .mov (.t 10), []⟩, ⟨21, (some 57), (some (55, true)), .bin .eql (.t 56) (.c (.int .i64 0)), []⟩, ⟨22, (some 58), none, .pick (.t 55) (.t 57) (.c (.bool false)), []⟩, ⟨23, (some 59), none, .mov (.t 58), []⟩, ⟨24, (some 60), (some (59, true)), .mov (.t 9), []⟩, ⟨25, (some 61), (some (59, true)), .len (.t 60), []⟩, ⟨26, (some 62), (some (59, true)), .bin .eql (.t 61) (.c (.int .i64 65536)), []⟩, ⟨27, (some 63), none, .pick (.t 59) (.t 62) (.c (.bool false)), []⟩, ⟨28, (some 64), none, .mov (.t 63), []⟩, ⟨29, (some 65), (some (64, true)), .call (.c (.func (.func 12) #[] #[])) [], []⟩, ⟨30, (some 66), none, .pick (.t 64) (.t 65) (.c (.bool false)), []⟩, ⟨31, (some 0), none, .mov (.t 66), []⟩]) .ret))))))))
attribute [irreducible] c_culletlaw13_LchNames
theorem run_culletlaw13_LchNames {args : List Value} {w : World} {K : Value → World → Prop} (hn : args.length ≤ 67) (h : WP Try.prog c_culletlaw13_LchNames (endQ [.t 0] K) (initT args) w) : CallV Try.prog 6 args w K :=
  call_of follows Try.func6 (by kernel_rfl) (by kernel_rfl) hn h
end Go.Proofs.Ytcnabolainmaeaa.Fw
namespace Go.Proofs.Ytcnabolainmaeaa.Fw
open Go Go.Fw
theorem culletlaw13_LchNames_spec (w : World) : CallV Try.prog 6 [] w fun v w' => v = .bool true ∧ RowKit.Below w.heap.size w w' := by
  refine run_culletlaw13_LchNames (by simp) ?_
  have L5 : (List.replicate 512 (0 : El 16)).length = 512 := List.length_replicate ..
  have L2 : (List.replicate 256 (0 : El 16)).length = 256 := List.length_replicate ..
  have L6 : (List.replicate 65537 (0 : El 16)).length = 65537 := List.length_replicate ..
  have L1 : (List.replicate 131072 (0 : El 16)).length = 131072 := List.length_replicate ..
  have L7 : (List.replicate 65536 (0 : El 16)).length = 65536 := List.length_replicate ..
  generalize hl5 : List.replicate 512 (0 : El 16) = l5 at L5
  generalize hl2 : List.replicate 256 (0 : El 16) = l2 at L2
  generalize hl6 : List.replicate 65537 (0 : El 16) = l6 at L6
  generalize hl1 : List.replicate 131072 (0 : El 16) = l1 at L1
  generalize hl7 : List.replicate 65536 (0 : El 16) = l7 at L7
  simp only [c_culletlaw13_LchNames, WS, List.getElem_cons_zero, List.getElem_cons_succ, Option.isNone_some, Option.isNone_none, List.getD_cons_zero, List.getD_cons_succ, I.at, atL, atO, atP, evp, evs, retV, ↓reduceIte, Nat.reduceEqDiff, reduceCtorEq]
  refine X_mks (x := (0 : El 16)) (n := 512) (by decide) (by decide) fun sv w1 ov hB => ?_
  rw [hl5] at ov
  have ov := ov.sl
  have B := hB
  clear hB
  simp (maxSteps := 1000000) (disch := omega) only [WS, List.getElem_cons_zero, List.getElem_cons_succ, Option.isNone_some, Option.isNone_none, List.getD_cons_zero, List.getD_cons_succ, I.at, atL, atO, atP, evp, evs, retV, ↓reduceIte, Nat.reduceEqDiff, reduceCtorEq, AS]
  refine X_call0 ((lch_ToMonomials_spec w1 sv l5 ov (by omega)).mono ?_)
  rintro _ w2 ⟨hB, ⟨k, hk, hlk, -⟩ | ⟨-, rfl⟩⟩
  · have : 2 ^ k ≤ 2 ^ 8 := Nat.pow_le_pow_right (by omega) hk
    omega
  have B := B.trans (hB.mono B.size)
  clear hB
  clear ov
  simp (maxSteps := 1000000) (disch := omega) only [WS, List.getElem_cons_zero, List.getElem_cons_succ, Option.isNone_some, Option.isNone_none, List.getD_cons_zero, List.getD_cons_succ, I.at, atL, atO, atP, evp, evs, retV, ↓reduceIte, Nat.reduceEqDiff, reduceCtorEq, AS]
  refine X_mks (x := (0 : El 16)) (n := 256) (by decide) (by decide) fun sv w3 ov hB => ?_
  rw [hl2] at ov
  have ov := ov.sl
  have B := B.trans (hB.mono B.size)
  clear hB
  simp (maxSteps := 1000000) (disch := omega) only [WS, List.getElem_cons_zero, List.getElem_cons_succ, Option.isNone_some, Option.isNone_none, List.getD_cons_zero, List.getD_cons_succ, I.at, atL, atO, atP, evp, evs, retV, ↓reduceIte, Nat.reduceEqDiff, reduceCtorEq, AS]
  refine X_call0 ((lch_FromMonomials_spec w3 sv l2 ov (by omega)).mono ?_)
  rintro _ w4 ⟨hB, ⟨k, hk, hlk, sa, a, rfl, oa, al, -⟩ | ⟨hbad, -⟩⟩
  rotate_left
  · exact absurd ⟨by omega, by omega, by rw [L2]; decide⟩ hbad
  have oa := oa.sl
  rw [← hlk, L2] at al
  have B := B.trans (hB.mono B.size)
  clear hB
  clear ov
  simp (maxSteps := 1000000) (disch := omega) only [WS, List.getElem_cons_zero, List.getElem_cons_succ, Option.isNone_some, Option.isNone_none, List.getD_cons_zero, List.getD_cons_succ, I.at, atL, atO, atP, evp, evs, retV, ↓reduceIte, Nat.reduceEqDiff, reduceCtorEq, AS]
  refine X_mks (x := (0 : El 16)) (n := 65537) (by decide) (by decide) fun sv w5 ov hB => ?_
  rw [hl6] at ov
  have ov := ov.sl
  have oa := oa.up hB
  have B := B.trans (hB.mono B.size)
  clear hB
  simp (maxSteps := 1000000) (disch := omega) only [WS, List.getElem_cons_zero, List.getElem_cons_succ, Option.isNone_some, Option.isNone_none, List.getD_cons_zero, List.getD_cons_succ, I.at, atL, atO, atP, evp, evs, retV, ↓reduceIte, Nat.reduceEqDiff, reduceCtorEq, AS]
  refine X_call0 ((lch_Eval_spec w5 sv l6 (1 : El 16) ov (by omega)).mono ?_)
  rintro _ w6 ⟨hB, ⟨-, rfl⟩ | ⟨hbad, -⟩⟩
  rotate_left
  · omega
  have oa := oa.up hB
  have B := B.trans (hB.mono B.size)
  clear hB
  clear ov
  simp (maxSteps := 1000000) (disch := omega) only [WS, List.getElem_cons_zero, List.getElem_cons_succ, Option.isNone_some, Option.isNone_none, List.getD_cons_zero, List.getD_cons_succ, I.at, atL, atO, atP, evp, evs, retV, ↓reduceIte, Nat.reduceEqDiff, reduceCtorEq, AS]
  refine X_mks (x := (0 : El 16)) (n := 131072) (by decide) (by decide) fun sv w7 ov hB => ?_
  rw [hl1] at ov
  have ov := ov.sl
  have oa := oa.up hB
  have B := B.trans (hB.mono B.size)
  clear hB
  simp (maxSteps := 1000000) (disch := omega) only [WS, List.getElem_cons_zero, List.getElem_cons_succ, Option.isNone_some, Option.isNone_none, List.getD_cons_zero, List.getD_cons_succ, I.at, atL, atO, atP, evp, evs, retV, ↓reduceIte, Nat.reduceEqDiff, reduceCtorEq, AS]
  refine X_call0 ((lch_Derivative_spec w7 sv l1 ov (by omega)).mono ?_)
  rintro _ w8 ⟨hB, ⟨k, hk, hlk, -⟩ | ⟨-, rfl⟩⟩
  · have : 2 ^ k ≤ 2 ^ 16 := Nat.pow_le_pow_right (by omega) hk
    omega
  have oa := oa.up hB
  have B := B.trans (hB.mono B.size)
  clear hB
  clear ov
  simp (maxSteps := 1000000) (disch := omega) only [WS, List.getElem_cons_zero, List.getElem_cons_succ, Option.isNone_some, Option.isNone_none, List.getD_cons_zero, List.getD_cons_succ, I.at, atL, atO, atP, evp, evs, retV, ↓reduceIte, Nat.reduceEqDiff, reduceCtorEq, AS]
  refine X_mks (x := (0 : El 16)) (n := 65536) (by decide) (by decide) fun sv w9 ov hB => ?_
  rw [hl7] at ov
  have ov := ov.sl
  have oa := oa.up hB
  have B := B.trans (hB.mono B.size)
  clear hB
  simp (maxSteps := 1000000) (disch := omega) only [WS, List.getElem_cons_zero, List.getElem_cons_succ, Option.isNone_some, Option.isNone_none, List.getD_cons_zero, List.getD_cons_succ, I.at, atL, atO, atP, evp, evs, retV, ↓reduceIte, Nat.reduceEqDiff, reduceCtorEq, AS]
  refine X_call0 ((lch_Derivative_spec w9 sv l7 ov (by omega)).mono ?_)
  rintro _ w10 ⟨hB, ⟨k, hk, hlk, sb, b, rfl, ob, bl, -⟩ | ⟨hbad, -⟩⟩
  rotate_left
  · exact absurd ⟨by omega, by omega, by rw [L7]; decide⟩ hbad
  have ob := ob.sl
  rw [← hlk, L7] at bl
  have oa := oa.up hB
  have B := B.trans (hB.mono B.size)
  clear hB
  clear ov
  simp (maxSteps := 1000000) (disch := omega) only [WS, List.getElem_cons_zero, List.getElem_cons_succ, Option.isNone_some, Option.isNone_none, List.getD_cons_zero, List.getD_cons_succ, I.at, atL, atO, atP, evp, evs, retV, ↓reduceIte, Nat.reduceEqDiff, reduceCtorEq, AS, oa.Xlen, al, ob.Xlen, bl, show decide ((130 : Int) = 130) = true from rfl, show decide ((0 : Int) = 0) = true from rfl, show decide ((5 : Int) = 5) = true from rfl, show decide (((256 : Nat) : Int) = 256) = true from rfl, show decide (((65536 : Nat) : Int) = 65536) = true from rfl]
  refine X_call0 ((culletlaw13_awake_spec w10).mono ?_)
  rintro _ w11 ⟨rfl, hB⟩
  have B := B.trans (hB.mono B.size)
  clear hB
  simp (maxSteps := 1000000) (disch := omega) only [WS, List.getElem_cons_zero, List.getElem_cons_succ, Option.isNone_some, Option.isNone_none, List.getD_cons_zero, List.getD_cons_succ, I.at, atL, atO, atP, evp, evs, retV, ↓reduceIte, Nat.reduceEqDiff, reduceCtorEq, AS]
  exact B
end Go.Proofs.Ytcnabolainmaeaa.Fw
