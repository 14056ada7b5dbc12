import Derived.Test.YtpmfeaajpjjfiaaProg
import Derived.Test.YtpmfeaajpjjfiaaFwTE
import Derived.Test.YtpmfeaajpjjfiaaSS14oE
set_option linter.all false
set_option linter.unusedVariables false
set_option linter.unusedSimpArgs false
set_option maxRecDepth 100000
set_option maxHeartbeats 1000000
namespace Go.Proofs.Ytpmfeaajpjjfiaa.Fw
open Go Go.Fw Go.Proofs
attribute [local irreducible] stepI
def c_culletlaw14_AfftValues : C := .seq (.ops [⟨0, (some 4), none, .mov (.c (.bool false)), []⟩]) (.seq (.seq (.ops [⟨0, (some 13), none, .call (.c (.func (.func 14) #[] #[])) [], []⟩, ⟨1, (some 14), none, .un .not (.t 13), []⟩]) (.ite (.t 14) (.seq (.ops [⟨0, (some 4), none, .mov (.c (.bool false)), []⟩]) .ret) .skip)) (.seq (.ops [⟨0, (some 15), none, .mov (.t 0), []⟩, ⟨1, (some 16), none, .call (.c (.func (.func 15) #[] #[])) [.t 15, .c (.int .i64 64)], []⟩, ⟨2, (some 0), none, .mov (.t 16), []⟩]) (.seq (.seq (.ops [⟨0, (some 17), none, .mov (.t 0), []⟩, ⟨1, (some 18), none, .len (.t 17), []⟩, ⟨2, (some 19), none, .bin .eql (.t 18) (.c (.int .i64 0)), []⟩]) (.ite (.t 19) (.seq (.ops [⟨0, (some 4), none, .mov (.c (.bool true)), []⟩]) .ret) .skip)) (.seq (.ops [⟨0, (some 20), none, .mov (.t 1), []⟩, ⟨1, (some 21), none, .mov (.t 0), []⟩, ⟨2, (some 22), none, .len (.t 21), []⟩, ⟨3, (some 23), none, .call (.c (.func (.func 16) #[] #[])) [.t 20, .t 22], []⟩, ⟨4, (some 5), none, .mov (.t 23), []⟩]) (.seq (.ops [⟨0, (some 25), none, .mov (.t 0), []⟩, ⟨1, (some 26), none, .mov (.t 5), []⟩, ⟨2, (some 27), none, .call (.c (.func (.func 18) #[] #[])) [.t 25, .t 26], []⟩, ⟨3, (some 24), none, .mov (.t 27), []⟩, ⟨4, (some 28), none, .ext (.t 24) 0, []⟩, ⟨5, (some 29), none, .ext (.t 24) 1, []⟩, ⟨6, (some 6), none, .mov (.t 28), []⟩, ⟨7, (some 7), none, .mov (.t 29), []⟩]) (.seq (.seq (.ops [⟨0, (some 30), none, .mov (.t 7), []⟩, ⟨1, (some 31), none, .bin .neq (.t 30) (.c (.int .i64 0)), []⟩, ⟨2, (some 32), none, .mov (.t 31), []⟩, ⟨3, (some 33), (some (32, false)), .mov (.t 6), []⟩, ⟨4, (some 34), (some (32, false)), .len (.t 33), []⟩, ⟨5, (some 35), (some (32, false)), .mov (.t 0), []⟩, ⟨6, (some 36), (some (32, false)), .len (.t 35), []⟩, ⟨7, (some 37), (some (32, false)), .bin .neq (.t 34) (.t 36), []⟩, ⟨8, (some 38), none, .pick (.t 32) (.c (.bool true)) (.t 37), []⟩]) (.ite (.t 38) (.seq (.ops [⟨0, (some 4), none, .mov (.c (.bool false)), []⟩]) .ret) .skip)) (.seq (.seq (.ops [⟨0, (some 8), none, .mov (.c (.int .i64 0)), []⟩]) (.block 0 (.loop (.seq (.seq (.ops [⟨0, (some 39), none, .mov (.t 8), []⟩, ⟨1, (some 40), none, .mov (.t 6), []⟩, ⟨2, (some 41), none, .len (.t 40), []⟩, ⟨3, (some 42), none, .bin .lss (.t 39) (.t 41), []⟩]) (.ite (.t 42) .skip (.exit 0))) (.seq (.block 1 (.seq (.ops [⟨0, (some 46), none, .mov (.t 5), []⟩, ⟨1, (some 47), none, .mov (.t 8), []⟩, ⟨2, (some 48), none, .bin .add (.t 46) (.t 47), []⟩, ⟨3, (some 49), none, .call (.c (.func (.func 27) #[] #[])) [.t 48], []⟩, ⟨4, (some 45), none, .mov (.t 49), []⟩, ⟨5, (some 50), none, .ext (.t 45) 0, []⟩, ⟨6, (some 51), none, .ext (.t 45) 1, []⟩, ⟨7, (some 9), none, .mov (.t 50), []⟩, ⟨8, (some 10), none, .mov (.t 51), []⟩]) (.seq (.ops [⟨0, (some 53), none, .mov (.t 0), []⟩, ⟨1, (some 54), none, .mov (.t 9), []⟩, ⟨2, (some 55), none, .call (.c (.func (.func 28) #[] #[])) [.t 53, .t 54], []⟩, ⟨3, (some 52), none, .mov (.t 55), []⟩, ⟨4, (some 56), none, .ext (.t 52) 0, []⟩, ⟨5, (some 57), none, .ext (.t 52) 1, []⟩, ⟨6, (some 11), none, .mov (.t 56), []⟩, ⟨7, (some 12), none, .mov (.t 57), []⟩]) (.seq (.ops [⟨0, (some 58), none, .mov (.t 10), []⟩, ⟨1, (some 59), none, .bin .neq (.t 58) (.c (.int .i64 0)), []⟩, ⟨2, (some 60), none, .mov (.t 59), []⟩, ⟨3, (some 61), (some (60, false)), .mov (.t 12), []⟩, ⟨4, (some 62), (some (60, false)), .bin .neq (.t 61) (.c (.int .i64 0)), []⟩, ⟨5, (some 63), none, .pick (.t 60) (.c (.bool true)) (.t 62), []⟩, ⟨6, (some 64), none, .mov (.t 63), []⟩, ⟨7, (some 65), (some (64, false)), .mov (.t 11), []⟩, ⟨8, (some 66), (some (64, false)), .mov (.t 6), []⟩, ⟨9, (some 67), (some (64, false)), .mov (.t 8), []⟩, ⟨10, (some 68), (some (64, false)), .ixs 1 (.t 66) (.t 67), []⟩, ⟨11, (some 69), (some (64, false)), .ld (.t 68), []⟩, ⟨12, (some 70), (some (64, false)), .bin .neq (.t 65) (.t 69), []⟩, ⟨13, (some 71), none, .pick (.t 64) (.c (.bool true)) (.t 70), []⟩]) (.ite (.t 71) (.seq (.ops [⟨0, (some 4), none, .mov (.c (.bool false)), []⟩]) .ret) .skip))))) (.ops [⟨0, (some 43), none, .mov (.t 8), []⟩, ⟨1, (some 44), none, .bin .add (.t 43) (.c (.int .i64 1)), []⟩, ⟨2, (some 8), none, .mov (.t 44), []⟩])))))) (.seq (.ops [⟨0, (some 4), none, .mov (.c (.bool true)), []⟩]) .ret))))))))
attribute [irreducible] c_culletlaw14_AfftValues
theorem run_culletlaw14_AfftValues {args : List Value} {w : World} {K : Value → World → Prop} (hn : args.length ≤ 72) (h : WP Try.prog c_culletlaw14_AfftValues (endQ [.t 4] K) (initT args) w) : CallV Try.prog 11 args w K :=
  call_of follows Try.func11 (by kernel_rfl) (by kernel_rfl) hn h
end Go.Proofs.Ytpmfeaajpjjfiaa.Fw
namespace Go.Proofs.Ytpmfeaajpjjfiaa.Fw
open Go Go.Fw
theorem culletlaw14_AfftValues_spec (w : World) (s : Value) (l : List (El 16)) (a : Int) (h : Sl w s l) (hb : l.length ≤ 70368744175616) (ha : -9223372036854775808 ≤ a ∧ a ≤ 9223372036854775807) :
    CallV Try.prog 11 [s, .int .i64 a] w fun v w' => v = .bool true ∧ RowKit.Below w.heap.size w w' := by
  refine run_culletlaw14_AfftValues (by simp) ?_
  simp only [c_culletlaw14_AfftValues, WS, List.getElem_cons_zero, List.getElem_cons_succ, Option.isNone_some, Option.isNone_none, List.getD_cons_zero, List.getD_cons_succ, I.at, atL, atO, atP, evp, evs, retV, ↓reduceIte, Nat.reduceEqDiff, reduceCtorEq]
  refine X_call0 ((culletlaw14_awake_spec w).mono ?_)
  rintro _ w1 ⟨rfl, hB⟩
  have B := hB
  have g := h.up B
  clear hB
  simp (maxSteps := 1000000) (disch := omega) only [WS, List.getElem_cons_zero, List.getElem_cons_succ, Option.isNone_some, Option.isNone_none, List.getD_cons_zero, List.getD_cons_succ, I.at, atL, atO, atP, evp, evs, retV, ↓reduceIte, Nat.reduceEqDiff, reduceCtorEq, AS]
  refine X_call0 ((cut_any (m := 64) g (by omega) (by omega)).mono ?_)
  rintro s1 w' ⟨rfl, n, hs, hn1, hn4, hnk⟩
  have hL : (l.take n).length = n := by rw [List.length_take]; omega
  generalize l.take n = V at hs hL
  by_cases hn0 : n = 0
  · simp (maxSteps := 1000000) (disch := omega) only [WS, List.getElem_cons_zero, List.getElem_cons_succ, Option.isNone_some, Option.isNone_none, List.getD_cons_zero, List.getD_cons_succ, I.at, atL, atO, atP, evp, evs, retV, ↓reduceIte, Nat.reduceEqDiff, reduceCtorEq, AS, hs.Xlen, hL]
    exact B
  obtain ⟨k, hk, rfl⟩ : ∃ k, k ≤ 16 ∧ n = 2 ^ k := by rcases hnk with h | h; exact absurd h.1 hn0; exact h
  have hp := Nat.two_pow_pos k
  clear g hnk
  simp (maxSteps := 1000000) (disch := omega) only [WS, List.getElem_cons_zero, List.getElem_cons_succ, Option.isNone_some, Option.isNone_none, List.getD_cons_zero, List.getD_cons_succ, I.at, atL, atO, atP, evp, evs, retV, ↓reduceIte, Nat.reduceEqDiff, reduceCtorEq, AS, hs.Xlen, hL]
  refine X_call0 ((culletlaw14_begin_spec _ a k hk ha).mono ?_)
  rintro _ w2 ⟨rfl, p, rfl, hp1, hp2⟩
  have hP := isC_of hp1 hp2
  simp (maxSteps := 1000000) (disch := omega) only [WS, List.getElem_cons_zero, List.getElem_cons_succ, Option.isNone_some, Option.isNone_none, List.getD_cons_zero, List.getD_cons_succ, I.at, atL, atO, atP, evp, evs, retV, ↓reduceIte, Nat.reduceEqDiff, reduceCtorEq, AS]
  refine X_call0 ((fwd_any hs hL hk hP).mono ?_)
  rintro _ w3 ⟨sv, v, rfl, ov, lv, hv, hB⟩
  have ov := ov.sl
  have hs := hs.up hB
  have B := B.trans (hB.mono B.size)
  clear hB
  simp (maxSteps := 1000000) (disch := omega) only [WS, List.getElem_cons_zero, List.getElem_cons_succ, Option.isNone_some, Option.isNone_none, List.getD_cons_zero, List.getD_cons_succ, I.at, atL, atO, atP, evp, evs, retV, ↓reduceIte, Nat.reduceEqDiff, reduceCtorEq, AS, ov.Xlen, hs.Xlen, lv, hL, show decide (((2 ^ k : Nat) : Int) = ((2 ^ k : Nat) : Int)) = true from decide_eq_true rfl]
  refine loop_of (fun t w' => t 0 = s1 ∧ t 5 = .int .i64 (p : Int) ∧ t 6 = sv ∧ RowKit.Below w.heap.size w w' ∧ Sl w' s1 V ∧ Sl w' sv v ∧ ∃ (i : Nat), t 8 = .int .i64 (i : Int) ∧ i ≤ 2 ^ k) (fun t _ => 2 ^ k - (toI (t 8)).toNat) ⟨by simp only [WS, List.getElem_cons_zero, List.getElem_cons_succ, Option.isNone_some, Option.isNone_none, List.getD_cons_zero, List.getD_cons_succ, I.at, atL, atO, atP, evp, evs, retV, ↓reduceIte, Nat.reduceEqDiff, reduceCtorEq], by simp only [WS, List.getElem_cons_zero, List.getElem_cons_succ, Option.isNone_some, Option.isNone_none, List.getD_cons_zero, List.getD_cons_succ, I.at, atL, atO, atP, evp, evs, retV, ↓reduceIte, Nat.reduceEqDiff, reduceCtorEq], by simp only [WS, List.getElem_cons_zero, List.getElem_cons_succ, Option.isNone_some, Option.isNone_none, List.getD_cons_zero, List.getD_cons_succ, I.at, atL, atO, atP, evp, evs, retV, ↓reduceIte, Nat.reduceEqDiff, reduceCtorEq], B, hs, ov, 0, rfl, by omega⟩ ?_
  clear B hs ov
  rintro t w4 ⟨t0, t5, t6, B, hs, ov, i, t8, hi⟩
  by_cases hil : i < 2 ^ k
  · have iv : i < v.length := by omega
    simp (maxSteps := 1000000) (disch := omega) only [WS, List.getElem_cons_zero, List.getElem_cons_succ, Option.isNone_some, Option.isNone_none, List.getD_cons_zero, List.getD_cons_succ, I.at, atL, atO, atP, evp, evs, retV, ↓reduceIte, Nat.reduceEqDiff, reduceCtorEq, AS, t0, t5, t6, t8, ov.Xlen, lv]
    refine X_call0 ((gf16_Element_spec w4 ((p + i : Nat) : Int)).mono ?_)
    rintro _ w5 ⟨hB, ⟨-, -, rfl⟩ | ⟨hbad, -⟩⟩
    rotate_left
    · exact absurd ⟨by omega, by omega⟩ hbad
    rw [Int.toNat_natCast]
    have hs := hs.up hB
    have ov := ov.up hB
    have B := B.trans (hB.mono B.size)
    clear hB
    simp (maxSteps := 1000000) (disch := omega) only [WS, List.getElem_cons_zero, List.getElem_cons_succ, Option.isNone_some, Option.isNone_none, List.getD_cons_zero, List.getD_cons_succ, I.at, atL, atO, atP, evp, evs, retV, ↓reduceIte, Nat.reduceEqDiff, reduceCtorEq, AS, t0, t5, t6, t8]
    refine X_call0 ((lch_Eval_spec w5 s1 V (wel (p + i)) hs (by omega)).mono ?_)
    rintro _ w6 ⟨hB, ⟨hbad, -⟩ | ⟨-, rfl⟩⟩
    · omega
    have hs := hs.up hB
    have ov := ov.up hB
    have B := B.trans (hB.mono B.size)
    clear hB
    have hval : evX 16 V.length (co V).c (wel (p + i)) = v[i] := by
      have h16 := evX_k (k := k) (e := 16 - k) (f := (co V).c) (x := wel (p + i)) (Nat.le_refl (2 ^ k))
      rw [show k + (16 - k) = 16 by omega] at h16
      rw [hL, h16, ← itF_ev p k (co V).c i hp1 hp2 hil, ← hv i hil, co_get v iv]
    rw [hval]
    simp (maxSteps := 1000000) (disch := omega) only [WS, List.getElem_cons_zero, List.getElem_cons_succ, Option.isNone_some, Option.isNone_none, List.getD_cons_zero, List.getD_cons_succ, I.at, atL, atO, atP, evp, evs, retV, ↓reduceIte, Nat.reduceEqDiff, reduceCtorEq, AS, t0, t5, t6, t8, ov.Xix iv, ov.Xld iv, cell_e16, show decide ((v[i].v.toNat : Int) = (v[i].v.toNat : Int)) = true from decide_eq_true rfl]
    refine ⟨⟨B, hs, ov, i + 1, rfl, by omega⟩, by omega⟩
  · simp (maxSteps := 1000000) (disch := omega) only [WS, List.getElem_cons_zero, List.getElem_cons_succ, Option.isNone_some, Option.isNone_none, List.getD_cons_zero, List.getD_cons_succ, I.at, atL, atO, atP, evp, evs, retV, ↓reduceIte, Nat.reduceEqDiff, reduceCtorEq, AS, t0, t5, t6, t8, ov.Xlen, lv]
    exact B
end Go.Proofs.Ytpmfeaajpjjfiaa.Fw
