import Derived.Test.YtpmfeaajpjjfiaaProg
import Derived.Test.YtpmfeaajpjjfiaaFwTD
import Derived.Test.YtpmfeaajpjjfiaaSS14mD
set_option linter.all false
set_option linter.unusedVariables false
set_option linter.unusedSimpArgs false
set_option maxRecDepth 100000
set_option maxHeartbeats 1000000
namespace Go.Proofs.Ytpmfeaajpjjfiaa.Fw
open Go Go.Fw Go.Proofs
attribute [local irreducible] stepI
def c_culletlaw14_AfftOver : C := .seq (.ops [⟨0, (some 6), none, .mov (.c (.bool false)), []⟩]) (.seq (.seq (.ops [⟨0, (some 22), none, .call (.c (.func (.func 14) #[] #[])) [], []⟩, ⟨1, (some 23), none, .un .not (.t 22), []⟩]) (.ite (.t 23) (.seq (.ops [⟨0, (some 6), none, .mov (.c (.bool false)), []⟩]) .ret) .skip)) (.seq (.ops [⟨0, (some 24), none, .mov (.t 0), []⟩, ⟨1, (some 25), none, .call (.c (.func (.func 15) #[] #[])) [.t 24, .c (.int .i64 4096)], []⟩, ⟨2, (some 0), none, .mov (.t 25), []⟩]) (.seq (.seq (.ops [⟨0, (some 26), none, .mov (.t 0), []⟩, ⟨1, (some 27), none, .len (.t 26), []⟩, ⟨2, (some 28), none, .bin .eql (.t 27) (.c (.int .i64 0)), []⟩]) (.ite (.t 28) (.seq (.ops [⟨0, (some 6), none, .mov (.c (.bool true)), []⟩]) .ret) .skip)) (.seq (.ops [⟨0, (some 29), none, .mov (.t 0), []⟩, ⟨1, (some 30), none, .len (.t 29), []⟩, ⟨2, (some 7), none, .mov (.t 30), []⟩]) (.seq (.ops [⟨0, (some 31), none, .mov (.t 1), []⟩, ⟨1, (some 32), none, .mov (.t 7), []⟩, ⟨2, (some 33), none, .call (.c (.func (.func 16) #[] #[])) [.t 31, .t 32], []⟩, ⟨3, (some 8), none, .mov (.t 33), []⟩]) (.seq (.ops [⟨0, (some 34), none, .mov (.t 2), []⟩, ⟨1, (some 35), none, .mov (.t 7), []⟩, ⟨2, (some 36), none, .call (.c (.func (.func 16) #[] #[])) [.t 34, .t 35], []⟩, ⟨3, (some 9), none, .mov (.t 36), []⟩]) (.seq (.ops [⟨0, (some 38), none, .mov (.t 0), []⟩, ⟨1, (some 39), none, .mov (.t 8), []⟩, ⟨2, (some 40), none, .mov (.t 9), []⟩, ⟨3, (some 41), none, .call (.c (.func (.func 21) #[] #[])) [.t 38, .t 39, .t 40], []⟩, ⟨4, (some 37), none, .mov (.t 41), []⟩, ⟨5, (some 42), none, .ext (.t 37) 0, []⟩, ⟨6, (some 43), none, .ext (.t 37) 1, []⟩, ⟨7, (some 10), none, .mov (.t 42), []⟩, ⟨8, (some 11), none, .mov (.t 43), []⟩]) (.seq (.ops [⟨0, (some 45), none, .mov (.t 0), []⟩, ⟨1, (some 46), none, .mov (.t 8), []⟩, ⟨2, (some 47), none, .call (.c (.func (.func 17) #[] #[])) [.t 45, .t 46], []⟩, ⟨3, (some 44), none, .mov (.t 47), []⟩, ⟨4, (some 48), none, .ext (.t 44) 0, []⟩, ⟨5, (some 49), none, .ext (.t 44) 1, []⟩, ⟨6, (some 12), none, .mov (.t 48), []⟩, ⟨7, (some 13), none, .mov (.t 49), []⟩]) (.seq (.ops [⟨0, (some 51), none, .mov (.t 12), []⟩, ⟨1, (some 52), none, .mov (.t 9), []⟩, ⟨2, (some 53), none, .call (.c (.func (.func 18) #[] #[])) [.t 51, .t 52], []⟩, ⟨3, (some 50), none, .mov (.t 53), []⟩, ⟨4, (some 54), none, .ext (.t 50) 0, []⟩, ⟨5, (some 55), none, .ext (.t 50) 1, []⟩, ⟨6, (some 14), none, .mov (.t 54), []⟩, ⟨7, (some 15), none, .mov (.t 55), []⟩]) (.seq (.ops [⟨0, (some 57), none, .mov (.t 10), []⟩, ⟨1, (some 58), none, .mov (.t 9), []⟩, ⟨2, (some 59), none, .mov (.t 8), []⟩, ⟨3, (some 60), none, .call (.c (.func (.func 21) #[] #[])) [.t 57, .t 58, .t 59], []⟩, ⟨4, (some 56), none, .mov (.t 60), []⟩, ⟨5, (some 61), none, .ext (.t 56) 0, []⟩, ⟨6, (some 62), none, .ext (.t 56) 1, []⟩, ⟨7, (some 16), none, .mov (.t 61), []⟩, ⟨8, (some 17), none, .mov (.t 62), []⟩]) (.seq (.seq (.ops [⟨0, (some 63), none, .mov (.t 11), []⟩, ⟨1, (some 64), none, .bin .neq (.t 63) (.c (.int .i64 0)), []⟩, ⟨2, (some 65), none, .mov (.t 64), []⟩, ⟨3, (some 66), (some (65, false)), .mov (.t 13), []⟩, ⟨4, (some 67), (some (65, false)), .bin .neq (.t 66) (.c (.int .i64 0)), []⟩, ⟨5, (some 68), none, .pick (.t 65) (.c (.bool true)) (.t 67), []⟩, ⟨6, (some 69), none, .mov (.t 68), []⟩, ⟨7, (some 70), (some (69, false)), .mov (.t 15), []⟩, ⟨8, (some 71), (some (69, false)), .bin .neq (.t 70) (.c (.int .i64 0)), []⟩, ⟨9, (some 72), none, .pick (.t 69) (.c (.bool true)) (.t 71), []⟩, ⟨10, (some 73), none, .mov (.t 72), []⟩, ⟨11, (some 74), (some (73, false)), .mov (.t 17), []⟩, ⟨12, (some 75), (some (73, false)), .bin .neq (.t 74) (.c (.int .i64 0)), []⟩, ⟨13, (some 76), none, .pick (.t 73) (.c (.bool true)) (.t 75), []⟩, ⟨14, (some 77), none, .mov (.t 76), []⟩, ⟨15, (some 78), (some (77, false)), .mov (.t 10), []⟩, ⟨16, (some 79), (some (77, false)), .mov (.t 14), []⟩, ⟨17, (some 80), (some (77, false)), .call (.c (.func (.func 19) #[] #[])) [.t 78, .t 79], []⟩, ⟨18, (some 81), (some (77, false)), .un .not (.t 80), []⟩, ⟨19, (some 82), none, .pick (.t 77) (.c (.bool true)) (.t 81), []⟩, ⟨20, (some 83), none, .mov (.t 82), []⟩, ⟨21, (some 84), (some (83, false)), .mov (.t 16), []⟩, ⟨22, (some 85), (some (83, false)), .mov (.t 0), []⟩, ⟨23, (some 86), (some (83, false)), .call (.c (.func (.func 19) #[] #[])) [.t 84, .t 85], []⟩, ⟨24, (some 87), (some (83, false)), .un .not (.t 86), []⟩, ⟨25, (some 88), none, .pick (.t 83) (.c (.bool true)) (.t 87), []⟩]) (.ite (.t 88) (.seq (.ops [⟨0, (some 6), none, .mov (.c (.bool false)), []⟩]) .ret) .skip)) (.seq (.ops [⟨0, (some 89), none, .mov (.t 1), []⟩, ⟨1, (some 90), none, .mov (.t 7), []⟩, ⟨2, (some 91), none, .bin .mul (.c (.int .i64 2)) (.t 90), []⟩, ⟨3, (some 92), none, .call (.c (.func (.func 16) #[] #[])) [.t 89, .t 91], []⟩, ⟨4, (some 18), none, .mov (.t 92), []⟩]) (.seq (.ops [⟨0, (some 94), none, .bsl 31 0 [.int .u16 0] [], []⟩, ⟨1, (some 95), none, .mov (.t 12), []⟩, ⟨2, (some 96), none, .app 31 2 [.int .u16 0] (.t 94) (.t 95), []⟩, ⟨3, (some 97), none, .mov (.t 7), []⟩, ⟨4, (some 98), none, .apz 31 2 [.int .u16 0] (.t 96) (.t 97), []⟩, ⟨5, (some 99), none, .mov (.t 18), []⟩, ⟨6, (some 100), none, .call (.c (.func (.func 18) #[] #[])) [.t 98, .t 99], []⟩, ⟨7, (some 93), none, .mov (.t 100), []⟩, ⟨8, (some 101), none, .ext (.t 93) 0, []⟩, ⟨9, (some 102), none, .ext (.t 93) 1, []⟩, ⟨10, (some 19), none, .mov (.t 101), []⟩, ⟨11, (some 11), none, .mov (.t 102), []⟩]) (.seq (.ops [⟨0, (some 104), none, .mov (.t 12), []⟩, ⟨1, (some 105), none, .mov (.t 18), []⟩, ⟨2, (some 106), none, .call (.c (.func (.func 18) #[] #[])) [.t 104, .t 105], []⟩, ⟨3, (some 103), none, .mov (.t 106), []⟩, ⟨4, (some 107), none, .ext (.t 103) 0, []⟩, ⟨5, (some 108), none, .ext (.t 103) 1, []⟩, ⟨6, (some 20), none, .mov (.t 107), []⟩, ⟨7, (some 13), none, .mov (.t 108), []⟩]) (.seq (.ops [⟨0, (some 110), none, .mov (.t 20), []⟩, ⟨1, (some 111), none, .mov (.t 18), []⟩, ⟨2, (some 112), none, .mov (.t 18), []⟩, ⟨3, (some 113), none, .mov (.t 7), []⟩, ⟨4, (some 114), none, .bin .add (.t 112) (.t 113), []⟩, ⟨5, (some 115), none, .call (.c (.func (.func 21) #[] #[])) [.t 110, .t 111, .t 114], []⟩, ⟨6, (some 109), none, .mov (.t 115), []⟩, ⟨7, (some 116), none, .ext (.t 109) 0, []⟩, ⟨8, (some 117), none, .ext (.t 109) 1, []⟩, ⟨9, (some 21), none, .mov (.t 116), []⟩, ⟨10, (some 15), none, .mov (.t 117), []⟩]) (.seq (.ops [⟨0, (some 118), none, .mov (.t 11), []⟩, ⟨1, (some 119), none, .bin .eql (.t 118) (.c (.int .i64 0)), []⟩, ⟨2, (some 120), none, .mov (.t 119), []⟩, ⟨3, (some 121), (some (120, true)), .mov (.t 13), []⟩, ⟨4, (some 122), (some (120, true)), .bin .eql (.t 121) (.c (.int .i64 0)), []⟩, ⟨5, (some 123), none, .pick (.t 120) (.t 122) (.c (.bool false)), []⟩, ⟨6, (some 124), none, .mov (.t 123), []⟩, ⟨7, (some 125), (some (124, true)), .mov (.t 15), []⟩, ⟨8, (some 126), (some (124, true)), .bin .eql (.t 125) (.c (.int .i64 0)), []⟩, ⟨9, (some 127), none, .pick (.t 124) (.t 126) (.c (.bool false)), []⟩, ⟨10, (some 128), none, .mov (.t 127), []⟩, ⟨11, (some 129), (some (128, true)), .mov (.t 19), []⟩, ⟨12, (some 130), (some (128, true)), .bsl 31 0 [.int .u16 0] [], []⟩, ⟨13, (some 131), (some (128, true)), .mov (.t 20), []⟩, ⟨14, (some 132), (some (128, true)), .app 31 2 [.int .u16 0] (.t 130) (.t 131), []⟩, ⟨15, (some 133), (some (128, true)), .mov (.t 21), []⟩, ⟨16, (some 134), (some (128, true)), .app 31 2 [.int .u16 0] (.t 132) (.t 133), []⟩, ⟨17, (some 135), (some (128, true)), .call (.c (.func (.func 19) #[] #[])) [.t 129, .t 134], []⟩, ⟨18, (some 136), none, .pick (.t 128) (.t 135) (.c (.bool false)), []⟩, ⟨19, (some 6), none, .mov (.t 136), []⟩]) .ret))))))))))))))))
attribute [irreducible] c_culletlaw14_AfftOver
theorem run_culletlaw14_AfftOver {args : List Value} {w : World} {K : Value → World → Prop} (hn : args.length ≤ 137) (h : WP Try.prog c_culletlaw14_AfftOver (endQ [.t 6] K) (initT args) w) : CallV Try.prog 6 args w K :=
  call_of follows Try.func6 (by kernel_rfl) (by kernel_rfl) hn h
end Go.Proofs.Ytpmfeaajpjjfiaa.Fw
namespace Go.Proofs.Ytpmfeaajpjjfiaa.Fw
open Go Go.Fw
theorem over_low {k p : Nat} {f d : Nat → El 16} (h1 : ∀ i, i < 2 ^ k → f i = d i) (h2 : ∀ i, i < 2 ^ k → f (2 ^ k + i) = 0) : ∀ i, i < 2 ^ k → itF p (k + 1) f i = itF p k d i := fun i hi => by
  show itF p k (bfn k p f) i = _
  refine itF_loc (n := 2 ^ k) (Nat.mod_self _) (fun j hj => ?_) i hi
  unfold bfn
  rw [Nat.mod_eq_of_lt (show j < 2 * 2 ^ k by omega), if_pos hj, Nat.add_comm j, h2 j hj, El.mul_zero, El.add_zero, h1 j hj]
theorem over_high {k p : Nat} {f d : Nat → El 16} (h1 : ∀ i, i < 2 ^ k → f i = d i) (h2 : ∀ i, i < 2 ^ k → f (2 ^ k + i) = 0) : ∀ i, i < 2 ^ k → itF p (k + 1) f (2 ^ k + i) = itF (p + 2 ^ k) k d i := fun i hi => by
  show itF p k (bfn k p f) (2 ^ k + i) = _
  rw [itF_sh (bfn k p f) (Nat.mod_self _) i]
  refine itF_loc (n := 2 ^ k) (Nat.mod_self _) (fun j hj => ?_) i hi
  unfold bfn
  rw [Nat.mod_eq_of_lt (show 2 ^ k + j < 2 * 2 ^ k by omega), if_neg (by omega), Nat.add_sub_cancel_left, h2 j hj, El.mul_zero, El.add_zero, El.add_zero, h1 j hj]
theorem culletlaw14_AfftOver_spec (w : World) (s : Value) (l : List (El 16)) (a b : Int) (h : Sl w s l) (hb : l.length ≤ 70368744175616) (ha : -9223372036854775808 ≤ a ∧ a ≤ 9223372036854775807) (hb' : -9223372036854775808 ≤ b ∧ b ≤ 9223372036854775807) :
    CallV Try.prog 6 [s, .int .i64 a, .int .i64 b] w fun v w' => v = .bool true ∧ RowKit.Below w.heap.size w w' := by
  refine run_culletlaw14_AfftOver (by simp) ?_
  simp only [c_culletlaw14_AfftOver, WS, List.getElem_cons_zero, List.getElem_cons_succ, Option.isNone_some, Option.isNone_none, List.getD_cons_zero, List.getD_cons_succ, I.at, atL, atO, atP, evp, evs, retV, ↓reduceIte, Nat.reduceEqDiff, reduceCtorEq]
  refine X_call0 ((culletlaw14_awake_spec w).mono ?_)
  rintro _ w1 ⟨rfl, hB⟩
  have B := hB
  have g := h.up B
  clear hB
  simp (maxSteps := 1000000) (disch := omega) only [WS, List.getElem_cons_zero, List.getElem_cons_succ, Option.isNone_some, Option.isNone_none, List.getD_cons_zero, List.getD_cons_succ, I.at, atL, atO, atP, evp, evs, retV, ↓reduceIte, Nat.reduceEqDiff, reduceCtorEq, AS]
  refine X_call0 ((cut_any (m := 4096) g (by omega) (by omega)).mono ?_)
  rintro s1 w' ⟨rfl, n, hs, hn1, hn4, hnk⟩
  have hL : (l.take n).length = n := by rw [List.length_take]; omega
  generalize l.take n = V at hs hL
  by_cases hn0 : n = 0
  · simp (maxSteps := 1000000) (disch := omega) only [WS, List.getElem_cons_zero, List.getElem_cons_succ, Option.isNone_some, Option.isNone_none, List.getD_cons_zero, List.getD_cons_succ, I.at, atL, atO, atP, evp, evs, retV, ↓reduceIte, Nat.reduceEqDiff, reduceCtorEq, AS, hs.Xlen, hL]
    exact B
  obtain ⟨k, hk, rfl⟩ : ∃ k, k ≤ 16 ∧ n = 2 ^ k := by rcases hnk with h | h; exact absurd h.1 hn0; exact h
  have hk12 : k ≤ 12 := Nat.le_of_not_lt fun hlt => by
    have : 2 ^ 13 ≤ 2 ^ k := Nat.pow_le_pow_right (by omega) hlt
    omega
  have hp := Nat.two_pow_pos k
  have h2k : 2 ^ (k + 1) = 2 * 2 ^ k := by rw [Nat.pow_succ, Nat.mul_comm]
  clear g hnk
  simp (maxSteps := 1000000) (disch := omega) only [WS, List.getElem_cons_zero, List.getElem_cons_succ, Option.isNone_some, Option.isNone_none, List.getD_cons_zero, List.getD_cons_succ, I.at, atL, atO, atP, evp, evs, retV, ↓reduceIte, Nat.reduceEqDiff, reduceCtorEq, AS, hs.Xlen, hL]
  refine X_call0 ((culletlaw14_begin_spec _ a k hk ha).mono ?_)
  rintro _ w2 ⟨rfl, p, rfl, hp1, hp2⟩
  simp (maxSteps := 1000000) (disch := omega) only [WS, List.getElem_cons_zero, List.getElem_cons_succ, Option.isNone_some, Option.isNone_none, List.getD_cons_zero, List.getD_cons_succ, I.at, atL, atO, atP, evp, evs, retV, ↓reduceIte, Nat.reduceEqDiff, reduceCtorEq, AS]
  refine X_call0 ((culletlaw14_begin_spec _ b k hk hb').mono ?_)
  rintro _ w3 ⟨rfl, q, rfl, hq1, hq2⟩
  have hP := isC_of hp1 hp2
  have hQ := isC_of hq1 hq2
  simp (maxSteps := 1000000) (disch := omega) only [WS, List.getElem_cons_zero, List.getElem_cons_succ, Option.isNone_some, Option.isNone_none, List.getD_cons_zero, List.getD_cons_succ, I.at, atL, atO, atP, evp, evs, retV, ↓reduceIte, Nat.reduceEqDiff, reduceCtorEq, AS]
  refine X_call0 ((ext_any hs hL hk hP hQ).mono ?_)
  rintro _ w4 ⟨sw, W, rfl, oW, lW, hW, hB⟩
  have oW := oW.sl
  have hs := hs.up hB
  have B := B.trans (hB.mono B.size)
  clear hB
  simp (maxSteps := 1000000) (disch := omega) only [WS, List.getElem_cons_zero, List.getElem_cons_succ, Option.isNone_some, Option.isNone_none, List.getD_cons_zero, List.getD_cons_succ, I.at, atL, atO, atP, evp, evs, retV, ↓reduceIte, Nat.reduceEqDiff, reduceCtorEq, AS]
  refine X_call0 ((inv_any hs hL hk hP).mono ?_)
  rintro _ w5 ⟨sd, d, rfl, od, ld, hd, hB⟩
  have od := od.sl
  have hs := hs.up hB
  have oW := oW.up hB
  have B := B.trans (hB.mono B.size)
  clear hB
  simp (maxSteps := 1000000) (disch := omega) only [WS, List.getElem_cons_zero, List.getElem_cons_succ, Option.isNone_some, Option.isNone_none, List.getD_cons_zero, List.getD_cons_succ, I.at, atL, atO, atP, evp, evs, retV, ↓reduceIte, Nat.reduceEqDiff, reduceCtorEq, AS]
  refine X_call0 ((fwd_any od ld hk hQ).mono ?_)
  rintro _ w6 ⟨su, u, rfl, ou, lu, hu, hB⟩
  have ou := ou.sl
  have hs := hs.up hB
  have oW := oW.up hB
  have od := od.up hB
  have B := B.trans (hB.mono B.size)
  clear hB
  simp (maxSteps := 1000000) (disch := omega) only [WS, List.getElem_cons_zero, List.getElem_cons_succ, Option.isNone_some, Option.isNone_none, List.getD_cons_zero, List.getD_cons_succ, I.at, atL, atO, atP, evp, evs, retV, ↓reduceIte, Nat.reduceEqDiff, reduceCtorEq, AS]
  refine X_call0 ((ext_any oW lW hk hQ hP).mono ?_)
  rintro _ w7 ⟨sk, bk, rfl, ok, lk, hbk, hB⟩
  have ok := ok.sl
  have hs := hs.up hB
  have oW := oW.up hB
  have od := od.up hB
  have ou := ou.up hB
  have B := B.trans (hB.mono B.size)
  clear hB
  obtain rfl : u = W := co_eq lu lW fun i hi => by rw [hu i hi, hW i hi, itF_loc (n := 2 ^ k) (Nat.mod_self _) hd i hi]
  obtain rfl : bk = V := co_eq lk hL fun i hi => by
    rw [hbk i hi, itF_loc (n := 2 ^ k) (Nat.mod_self _) (itI_loc (n := 2 ^ k) (Nat.mod_self _) hW) i hi, itI_itF, itF_itI]
  simp (maxSteps := 1000000) (disch := omega) only [WS, List.getElem_cons_zero, List.getElem_cons_succ, Option.isNone_some, Option.isNone_none, List.getD_cons_zero, List.getD_cons_succ, I.at, atL, atO, atP, evp, evs, retV, ↓reduceIte, Nat.reduceEqDiff, reduceCtorEq, AS]
  refine X_call0 ((culletlaw14_alike_spec w7 sw su _ _ oW ou (by omega) (by omega)).mono ?_)
  rintro _ w8 ⟨rfl, hk1⟩
  have hB := hk1.1
  have hs := hs.up hB
  have od := od.up hB
  have ok := ok.up hB
  have B := B.trans (hB.mono B.size)
  clear hB
  clear hk1 ou oW
  simp only [decide_true]
  simp (maxSteps := 1000000) (disch := omega) only [WS, List.getElem_cons_zero, List.getElem_cons_succ, Option.isNone_some, Option.isNone_none, List.getD_cons_zero, List.getD_cons_succ, I.at, atL, atO, atP, evp, evs, retV, ↓reduceIte, Nat.reduceEqDiff, reduceCtorEq, AS]
  refine X_call0 ((culletlaw14_alike_spec w8 sk s1 _ _ ok hs (by omega) (by omega)).mono ?_)
  rintro _ w9 ⟨rfl, hk1⟩
  have hB := hk1.1
  have od := od.up hB
  have B := B.trans (hB.mono B.size)
  clear hB
  clear hk1 ok hs
  simp only [decide_true]
  simp (maxSteps := 1000000) (disch := omega) only [WS, List.getElem_cons_zero, List.getElem_cons_succ, Option.isNone_some, Option.isNone_none, List.getD_cons_zero, List.getD_cons_succ, I.at, atL, atO, atP, evp, evs, retV, ↓reduceIte, Nat.reduceEqDiff, reduceCtorEq, AS]
  have e2 : ((2 * 2 ^ k : Nat) : Int) = ((2 ^ (k + 1) : Nat) : Int) := by rw [h2k]
  rw [e2]
  refine X_call0 ((culletlaw14_begin_spec _ a (k + 1) (by omega) ha).mono ?_)
  rintro _ w10 ⟨rfl, r, rfl, hr1, hr2⟩
  have hR := isC_of hr1 hr2
  have hr0 : r % 2 ^ k = 0 := Nat.mod_eq_zero_of_dvd (Nat.dvd_trans (Nat.pow_dvd_pow 2 (Nat.le_succ k)) (Nat.dvd_of_mod_eq_zero hr1))
  have hR2 : isC (r : Int) (2 ^ k) (2 ^ k) = true := isC_of hr0 (by omega)
  have hR3 : isC ((r + 2 ^ k : Nat) : Int) (2 ^ k) (2 ^ k) = true := isC_of (by rw [Nat.add_mod_right]; exact hr0) (by omega)
  simp (maxSteps := 1000000) (disch := omega) only [WS, List.getElem_cons_zero, List.getElem_cons_succ, Option.isNone_some, Option.isNone_none, List.getD_cons_zero, List.getD_cons_succ, I.at, atL, atO, atP, evp, evs, retV, ↓reduceIte, Nat.reduceEqDiff, reduceCtorEq, AS]
  have hdne : d ≠ [] := by rintro rfl; simp at ld; omega
  refine X_bsl (zs := ([] : List (El 16))) (by rfl) (by rfl) fun e0 w11 oe hB => ?_
  have nd := fresh_ne od hdne fun b hb => (oe.blk b hb).1
  have oe := oe.mono B.size
  have od := od.up hB
  have B := B.trans (hB.mono B.size)
  clear hB
  simp (maxSteps := 1000000) (disch := omega) only [WS, List.getElem_cons_zero, List.getElem_cons_succ, Option.isNone_some, Option.isNone_none, List.getD_cons_zero, List.getD_cons_succ, I.at, atL, atO, atP, evp, evs, retV, ↓reduceIte, Nat.reduceEqDiff, reduceCtorEq, AS]
  refine Ow.Xapp oe od B.size (by simp only [List.length_nil, maxBytes]; omega) (by simp only [List.length_nil]; omega) fun e1 w12 oe1 hg near => ?_
  rw [List.nil_append] at oe1
  have n1 : Fw.blk sd ≠ Fw.blk e1 := by
    rcases near with h | h
    · rw [h]; exact nd
    · exact fresh_ne od hdne h
  have od := od.grown hg (Or.inl nd)
  have B := Below.app B B.size hg fun b hb => (oe.blk b hb).1
  clear hg oe near nd
  simp (maxSteps := 1000000) (disch := omega) only [WS, List.getElem_cons_zero, List.getElem_cons_succ, Option.isNone_some, Option.isNone_none, List.getD_cons_zero, List.getD_cons_succ, I.at, atL, atO, atP, evp, evs, retV, ↓reduceIte, Nat.reduceEqDiff, reduceCtorEq, AS]
  refine Ow.Xapz (x := (0 : El 16)) oe1 rfl B.size (by simp only [maxBytes]; omega) (by omega) fun e2 w13 oe2 hg near => ?_
  have od := od.grown hg (Or.inl n1)
  have B := Below.app B B.size hg fun b hb => (oe1.blk b hb).1
  clear hg oe1 near n1
  have l2 : (d ++ List.replicate (2 ^ k) (0 : El 16)).length = 2 ^ (k + 1) := by rw [List.length_append, List.length_replicate, ld, h2k]; omega
  have f1 : ∀ i, i < 2 ^ k → (co (d ++ List.replicate (2 ^ k) (0 : El 16))).c i = (co d).c i := fun i hi => by rw [co_app, if_pos (by omega)]
  have f2 : ∀ i, i < 2 ^ k → (co (d ++ List.replicate (2 ^ k) (0 : El 16))).c (2 ^ k + i) = 0 := fun i hi => by rw [co_app, if_neg (by omega), co_replicate]; rfl
  simp (maxSteps := 1000000) (disch := omega) only [WS, List.getElem_cons_zero, List.getElem_cons_succ, Option.isNone_some, Option.isNone_none, List.getD_cons_zero, List.getD_cons_succ, I.at, atL, atO, atP, evp, evs, retV, ↓reduceIte, Nat.reduceEqDiff, reduceCtorEq, AS]
  refine X_call0 ((fwd_any oe2.sl l2 (by omega) hR).mono ?_)
  rintro _ w14 ⟨sx, x, rfl, ox, lx, hx, hB⟩
  have ox := ox.sl
  have od := od.up hB
  have B := B.trans (hB.mono B.size)
  clear hB
  simp (maxSteps := 1000000) (disch := omega) only [WS, List.getElem_cons_zero, List.getElem_cons_succ, Option.isNone_some, Option.isNone_none, List.getD_cons_zero, List.getD_cons_succ, I.at, atL, atO, atP, evp, evs, retV, ↓reduceIte, Nat.reduceEqDiff, reduceCtorEq, AS]
  refine X_call0 ((fwd_any od ld hk hR2).mono ?_)
  rintro _ w15 ⟨sy, y, rfl, oy, ly, hy, hB⟩
  have oy := oy.sl
  have ox := ox.up hB
  have B := B.trans (hB.mono B.size)
  clear hB
  have wr : IntKind.i64.wrap ((r : Int) + ((2 ^ k : Nat) : Int)) = ((r + 2 ^ k : Nat) : Int) := w_add _ _ (by omega)
  simp (maxSteps := 1000000) (disch := omega) only [WS, List.getElem_cons_zero, List.getElem_cons_succ, Option.isNone_some, Option.isNone_none, List.getD_cons_zero, List.getD_cons_succ, I.at, atL, atO, atP, evp, evs, retV, ↓reduceIte, Nat.reduceEqDiff, reduceCtorEq, AS, wr]
  refine X_call0 ((ext_any oy ly hk hR2 hR3).mono ?_)
  rintro _ w16 ⟨sz, z, rfl, oz, lz, hz, hB⟩
  have oz := oz.sl
  have ox := ox.up hB
  have oy := oy.up hB
  have B := B.trans (hB.mono B.size)
  clear hB
  have hxyz : x = y ++ z := co_eq (n := 2 ^ (k + 1)) lx (by rw [List.length_append]; omega) fun i hi => by
    rw [hx i hi, co_app]
    by_cases h1 : i < 2 ^ k
    · rw [if_pos (by omega), over_low f1 f2 i h1, hy i h1]
    · obtain ⟨i, rfl⟩ : ∃ j, i = 2 ^ k + j := ⟨i - 2 ^ k, by omega⟩
      rw [if_neg (by omega), over_high f1 f2 i (by omega), ly, Nat.add_sub_cancel_left, hz i (by omega)]
      exact itF_loc (n := 2 ^ k) (Nat.mod_self _) (fun j hj => by rw [itI_loc (n := 2 ^ k) (Nat.mod_self _) hy j hj, itI_itF]) i (by omega)
  have hyne : y ≠ [] := by rintro rfl; simp at ly; omega
  have hzne : z ≠ [] := by rintro rfl; simp at lz; omega
  have hxne : x ≠ [] := by rw [hxyz]; simp [hyne]
  clear od hx hy hz f1 f2
  simp (maxSteps := 1000000) (disch := omega) only [WS, List.getElem_cons_zero, List.getElem_cons_succ, Option.isNone_some, Option.isNone_none, List.getD_cons_zero, List.getD_cons_succ, I.at, atL, atO, atP, evp, evs, retV, ↓reduceIte, Nat.reduceEqDiff, reduceCtorEq, AS]
  refine X_bsl (zs := ([] : List (El 16))) (by rfl) (by rfl) fun e0 w17 oe hB => ?_
  have nx := fresh_ne ox hxne fun b hb => (oe.blk b hb).1
  have ny := fresh_ne oy hyne fun b hb => (oe.blk b hb).1
  have nz := fresh_ne oz hzne fun b hb => (oe.blk b hb).1
  have oe := oe.mono B.size
  have ox := ox.up hB
  have oy := oy.up hB
  have oz := oz.up hB
  have B := B.trans (hB.mono B.size)
  clear hB
  simp (maxSteps := 1000000) (disch := omega) only [WS, List.getElem_cons_zero, List.getElem_cons_succ, Option.isNone_some, Option.isNone_none, List.getD_cons_zero, List.getD_cons_succ, I.at, atL, atO, atP, evp, evs, retV, ↓reduceIte, Nat.reduceEqDiff, reduceCtorEq, AS]
  refine Ow.Xapp oe oy B.size (by simp only [List.length_nil, maxBytes]; omega) (by simp only [List.length_nil]; omega) fun e1 w18 oe1 hg near => ?_
  rw [List.nil_append] at oe1
  have nx1 : Fw.blk sx ≠ Fw.blk e1 := by
    rcases near with h | h
    · rw [h]; exact nx
    · exact fresh_ne ox hxne h
  have ox := ox.grown hg (Or.inl nx)
  have oz := oz.grown hg (Or.inl nz)
  have B := Below.app B B.size hg fun b hb => (oe.blk b hb).1
  clear hg oe near nx ny nz oy
  simp (maxSteps := 1000000) (disch := omega) only [WS, List.getElem_cons_zero, List.getElem_cons_succ, Option.isNone_some, Option.isNone_none, List.getD_cons_zero, List.getD_cons_succ, I.at, atL, atO, atP, evp, evs, retV, ↓reduceIte, Nat.reduceEqDiff, reduceCtorEq, AS]
  refine Ow.Xapp oe1 oz B.size (by simp only [maxBytes]; omega) (by omega) fun e2 w19 oe2 hg near => ?_
  have ox := ox.grown hg (Or.inl nx1)
  have B := Below.app B B.size hg fun b hb => (oe1.blk b hb).1
  simp (maxSteps := 1000000) (disch := omega) only [WS, List.getElem_cons_zero, List.getElem_cons_succ, Option.isNone_some, Option.isNone_none, List.getD_cons_zero, List.getD_cons_succ, I.at, atL, atO, atP, evp, evs, retV, ↓reduceIte, Nat.reduceEqDiff, reduceCtorEq, AS]
  subst hxyz
  refine X_call0 ((culletlaw14_alike_spec w19 sx e2 _ _ ox oe2.sl (by omega) (by omega)).mono ?_)
  rintro _ w20 ⟨rfl, hk1⟩
  have hB := hk1.1
  have B := B.trans (hB.mono B.size)
  clear hB
  simp only [decide_true]
  simp (maxSteps := 1000000) (disch := omega) only [WS, List.getElem_cons_zero, List.getElem_cons_succ, Option.isNone_some, Option.isNone_none, List.getD_cons_zero, List.getD_cons_succ, I.at, atL, atO, atP, evp, evs, retV, ↓reduceIte, Nat.reduceEqDiff, reduceCtorEq, AS]
  exact B
end Go.Proofs.Ytpmfeaajpjjfiaa.Fw
