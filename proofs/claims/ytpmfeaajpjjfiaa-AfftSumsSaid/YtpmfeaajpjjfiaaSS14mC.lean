import Derived.Test.YtpmfeaajpjjfiaaProg
import Derived.Test.YtpmfeaajpjjfiaaFwTC
import Derived.Test.YtpmfeaajpjjfiaaSS14lC
set_option linter.all false
set_option linter.unusedVariables false
set_option linter.unusedSimpArgs false
set_option maxRecDepth 100000
set_option maxHeartbeats 1000000
namespace Go.Proofs.Ytpmfeaajpjjfiaa.Fw
open Go Go.Fw Go.Proofs
attribute [local irreducible] stepI
def c_culletlaw14_AfftSums : C := .seq (.ops [⟨0, (some 8), none, .mov (.c (.bool false)), []⟩]) (.seq (.seq (.ops [⟨0, (some 20), none, .call (.c (.func (.func 14) #[] #[])) [], []⟩, ⟨1, (some 21), none, .un .not (.t 20), []⟩]) (.ite (.t 21) (.seq (.ops [⟨0, (some 8), none, .mov (.c (.bool false)), []⟩]) .ret) .skip)) (.seq (.ops [⟨0, (some 22), none, .mov (.t 0), []⟩, ⟨1, (some 23), none, .call (.c (.func (.func 15) #[] #[])) [.t 22, .c (.int .i64 4096)], []⟩, ⟨2, (some 24), none, .len (.t 23), []⟩, ⟨3, (some 9), none, .mov (.t 24), []⟩]) (.seq (.seq (.ops [⟨0, (some 25), none, .mov (.t 1), []⟩, ⟨1, (some 26), none, .len (.t 25), []⟩, ⟨2, (some 27), none, .mov (.t 0), []⟩, ⟨3, (some 28), none, .len (.t 27), []⟩, ⟨4, (some 29), none, .bin .lss (.t 26) (.t 28), []⟩]) (.ite (.t 29) (.ops [⟨0, (some 30), none, .mov (.t 1), []⟩, ⟨1, (some 31), none, .call (.c (.func (.func 15) #[] #[])) [.t 30, .c (.int .i64 4096)], []⟩, ⟨2, (some 32), none, .len (.t 31), []⟩, ⟨3, (some 9), none, .mov (.t 32), []⟩]) .skip)) (.seq (.seq (.ops [⟨0, (some 33), none, .mov (.t 9), []⟩, ⟨1, (some 34), none, .bin .eql (.t 33) (.c (.int .i64 0)), []⟩]) (.ite (.t 34) (.seq (.ops [⟨0, (some 8), none, .mov (.c (.bool true)), []⟩]) .ret) .skip)) (.seq (.ops [⟨0, (some 35), none, .mov (.t 3), []⟩, ⟨1, (some 36), none, .mov (.t 9), []⟩, ⟨2, (some 37), none, .call (.c (.func (.func 16) #[] #[])) [.t 35, .t 36], []⟩, ⟨3, (some 10), none, .mov (.t 37), []⟩]) (.seq (.ops [⟨0, (some 38), none, .mov (.t 9), []⟩, ⟨1, (some 39), none, .mks 31 2 [.int .u16 0] (.t 38) (.t 38), []⟩, ⟨2, (some 11), none, .mov (.t 39), []⟩]) (.seq (.seq (.ops [⟨0, (some 12), none, .mov (.c (.int .i64 0)), []⟩]) (.block 0 (.loop (.seq (.seq (.ops [⟨0, (some 40), none, .mov (.t 12), []⟩, ⟨1, (some 41), none, .mov (.t 9), []⟩, ⟨2, (some 42), none, .bin .lss (.t 40) (.t 41), []⟩]) (.ite (.t 42) .skip (.exit 0))) (.seq (.block 1 (.dops [⟨0, (some 45), none, .mov (.t 11), []⟩, ⟨1, (some 46), none, .mov (.t 12), []⟩, ⟨2, (some 47), none, .mov (.t 0), []⟩, ⟨3, (some 48), none, .mov (.t 12), []⟩, ⟨4, (some 49), none, .ixs 1 (.t 47) (.t 48), []⟩, ⟨5, (some 50), none, .ld (.t 49), []⟩, ⟨6, (some 51), none, .mov (.t 2), []⟩, ⟨7, (some 52), none, .mov (.t 1), []⟩, ⟨8, (some 53), none, .mov (.t 12), []⟩, ⟨9, (some 54), none, .ixs 1 (.t 52) (.t 53), []⟩, ⟨10, (some 55), none, .ld (.t 54), []⟩, ⟨11, (some 56), none, .call (.c (.func (.func 20) #[] #[])) [.t 51, .t 55], [5]⟩, ⟨12, (some 57), none, .bin .xor (.t 50) (.t 56), []⟩, ⟨13, (some 58), none, .ixs 1 (.t 45) (.t 46), []⟩, ⟨14, none, none, .st (.t 58) (.t 57), []⟩])) (.ops [⟨0, (some 43), none, .mov (.t 12), []⟩, ⟨1, (some 44), none, .bin .add (.t 43) (.c (.int .i64 1)), []⟩, ⟨2, (some 12), none, .mov (.t 44), []⟩])))))) (.seq (.ops [⟨0, (some 60), none, .mov (.t 0), []⟩, ⟨1, (some 61), none, .mov (.t 9), []⟩, ⟨2, (some 62), none, .slc 1 (.t 60) none (some (.t 61)) none, []⟩, ⟨3, (some 63), none, .mov (.t 10), []⟩, ⟨4, (some 64), none, .call (.c (.func (.func 18) #[] #[])) [.t 62, .t 63], []⟩, ⟨5, (some 59), none, .mov (.t 64), []⟩, ⟨6, (some 65), none, .ext (.t 59) 0, []⟩, ⟨7, (some 66), none, .ext (.t 59) 1, []⟩, ⟨8, (some 13), none, .mov (.t 65), []⟩, ⟨9, (some 14), none, .mov (.t 66), []⟩]) (.seq (.ops [⟨0, (some 68), none, .mov (.t 1), []⟩, ⟨1, (some 69), none, .mov (.t 9), []⟩, ⟨2, (some 70), none, .slc 1 (.t 68) none (some (.t 69)) none, []⟩, ⟨3, (some 71), none, .mov (.t 10), []⟩, ⟨4, (some 72), none, .call (.c (.func (.func 18) #[] #[])) [.t 70, .t 71], []⟩, ⟨5, (some 67), none, .mov (.t 72), []⟩, ⟨6, (some 73), none, .ext (.t 67) 0, []⟩, ⟨7, (some 74), none, .ext (.t 67) 1, []⟩, ⟨8, (some 15), none, .mov (.t 73), []⟩, ⟨9, (some 16), none, .mov (.t 74), []⟩]) (.seq (.ops [⟨0, (some 76), none, .mov (.t 11), []⟩, ⟨1, (some 77), none, .mov (.t 10), []⟩, ⟨2, (some 78), none, .call (.c (.func (.func 18) #[] #[])) [.t 76, .t 77], []⟩, ⟨3, (some 75), none, .mov (.t 78), []⟩, ⟨4, (some 79), none, .ext (.t 75) 0, []⟩, ⟨5, (some 80), none, .ext (.t 75) 1, []⟩, ⟨6, (some 17), none, .mov (.t 79), []⟩, ⟨7, (some 18), none, .mov (.t 80), []⟩]) (.seq (.seq (.ops [⟨0, (some 81), none, .mov (.t 14), []⟩, ⟨1, (some 82), none, .bin .neq (.t 81) (.c (.int .i64 0)), []⟩, ⟨2, (some 83), none, .mov (.t 82), []⟩, ⟨3, (some 84), (some (83, false)), .mov (.t 16), []⟩, ⟨4, (some 85), (some (83, false)), .bin .neq (.t 84) (.c (.int .i64 0)), []⟩, ⟨5, (some 86), none, .pick (.t 83) (.c (.bool true)) (.t 85), []⟩, ⟨6, (some 87), none, .mov (.t 86), []⟩, ⟨7, (some 88), (some (87, false)), .mov (.t 18), []⟩, ⟨8, (some 89), (some (87, false)), .bin .neq (.t 88) (.c (.int .i64 0)), []⟩, ⟨9, (some 90), none, .pick (.t 87) (.c (.bool true)) (.t 89), []⟩, ⟨10, (some 91), none, .mov (.t 90), []⟩, ⟨11, (some 92), (some (91, false)), .mov (.t 13), []⟩, ⟨12, (some 93), (some (91, false)), .len (.t 92), []⟩, ⟨13, (some 94), (some (91, false)), .mov (.t 9), []⟩, ⟨14, (some 95), (some (91, false)), .bin .neq (.t 93) (.t 94), []⟩, ⟨15, (some 96), none, .pick (.t 91) (.c (.bool true)) (.t 95), []⟩, ⟨16, (some 97), none, .mov (.t 96), []⟩, ⟨17, (some 98), (some (97, false)), .mov (.t 15), []⟩, ⟨18, (some 99), (some (97, false)), .len (.t 98), []⟩, ⟨19, (some 100), (some (97, false)), .mov (.t 9), []⟩, ⟨20, (some 101), (some (97, false)), .bin .neq (.t 99) (.t 100), []⟩, ⟨21, (some 102), none, .pick (.t 97) (.c (.bool true)) (.t 101), []⟩, ⟨22, (some 103), none, .mov (.t 102), []⟩, ⟨23, (some 104), (some (103, false)), .mov (.t 17), []⟩, ⟨24, (some 105), (some (103, false)), .len (.t 104), []⟩, ⟨25, (some 106), (some (103, false)), .mov (.t 9), []⟩, ⟨26, (some 107), (some (103, false)), .bin .neq (.t 105) (.t 106), []⟩, ⟨27, (some 108), none, .pick (.t 103) (.c (.bool true)) (.t 107), []⟩]) (.ite (.t 108) (.seq (.ops [⟨0, (some 8), none, .mov (.c (.bool false)), []⟩]) .ret) .skip)) (.seq (.seq (.ops [⟨0, (some 19), none, .mov (.c (.int .i64 0)), []⟩]) (.block 2 (.loop (.seq (.seq (.ops [⟨0, (some 109), none, .mov (.t 19), []⟩, ⟨1, (some 110), none, .mov (.t 9), []⟩, ⟨2, (some 111), none, .bin .lss (.t 109) (.t 110), []⟩]) (.ite (.t 111) .skip (.exit 2))) (.seq (.block 3 (.seq (.dops [⟨0, (some 114), none, .mov (.t 17), []⟩, ⟨1, (some 115), none, .mov (.t 19), []⟩, ⟨2, (some 116), none, .ixs 1 (.t 114) (.t 115), []⟩, ⟨3, (some 117), none, .ld (.t 116), []⟩, ⟨4, (some 118), none, .mov (.t 13), []⟩, ⟨5, (some 119), none, .mov (.t 19), []⟩, ⟨6, (some 120), none, .ixs 1 (.t 118) (.t 119), []⟩, ⟨7, (some 121), none, .ld (.t 120), []⟩, ⟨8, (some 122), none, .mov (.t 2), []⟩, ⟨9, (some 123), none, .mov (.t 15), []⟩, ⟨10, (some 124), none, .mov (.t 19), []⟩, ⟨11, (some 125), none, .ixs 1 (.t 123) (.t 124), []⟩, ⟨12, (some 126), none, .ld (.t 125), []⟩, ⟨13, (some 127), none, .call (.c (.func (.func 20) #[] #[])) [.t 122, .t 126], [3, 7]⟩, ⟨14, (some 128), none, .bin .xor (.t 121) (.t 127), []⟩, ⟨15, (some 129), none, .bin .neq (.t 117) (.t 128), []⟩]) (.ite (.t 129) (.seq (.ops [⟨0, (some 8), none, .mov (.c (.bool false)), []⟩]) .ret) .skip))) (.ops [⟨0, (some 112), none, .mov (.t 19), []⟩, ⟨1, (some 113), none, .bin .add (.t 112) (.c (.int .i64 1)), []⟩, ⟨2, (some 19), none, .mov (.t 113), []⟩])))))) (.seq (.ops [⟨0, (some 8), none, .mov (.c (.bool true)), []⟩]) .ret)))))))))))))
attribute [irreducible] c_culletlaw14_AfftSums
theorem run_culletlaw14_AfftSums {args : List Value} {w : World} {K : Value → World → Prop} (hn : args.length ≤ 130) (h : WP Try.prog c_culletlaw14_AfftSums (endQ [.t 8] K) (initT args) w) : CallV Try.prog 5 args w K :=
  call_of follows Try.func5 (by kernel_rfl) (by kernel_rfl) hn h
end Go.Proofs.Ytpmfeaajpjjfiaa.Fw
namespace Go.Proofs.Ytpmfeaajpjjfiaa.Fw
open Go Go.Fw
theorem cut_any {w : World} {s : Value} {l : List (El 16)} {m : Nat} (h : Sl w s l) (hm : 1 ≤ m) (hm2 : m ≤ 65536) :
    CallV Try.prog 15 [s, .int .i64 (m : Int)] w fun v w' => w' = w ∧ ∃ n, Sl w v (l.take n) ∧ n ≤ l.length ∧ n ≤ m ∧ ((n = 0 ∧ l.length = 0) ∨ ∃ k, k ≤ 16 ∧ n = 2 ^ k) := by
  refine (culletlaw14_cut_spec w s l m h hm hm2).mono ?_
  rintro v w' ⟨rfl, ⟨h0, rfl⟩ | ⟨k, hk, hkl, hkm, rfl⟩⟩
  · have : l = [] := List.eq_nil_of_length_eq_zero h0
    subst this
    exact ⟨rfl, 0, h, by omega, by omega, Or.inl ⟨rfl, rfl⟩⟩
  · have := h.sub (Nat.zero_le (2 ^ k)) hkl
    rw [List.drop_zero] at this
    exact ⟨rfl, 2 ^ k, this, hkl, hkm, Or.inr ⟨k, hk, rfl⟩⟩
theorem culletlaw14_AfftSums_spec (w : World) (s1 s2 : Value) (l1 l2 : List (El 16)) (c : El 16) (a : Int) (h1 : Sl w s1 l1) (h2 : Sl w s2 l2) (hb1 : l1.length ≤ 70368744175616) (hb2 : l2.length ≤ 70368744175616) (ha : -9223372036854775808 ≤ a ∧ a ≤ 9223372036854775807) :
    CallV Try.prog 5 [s1, s2, .int .u16 (c.v.toNat : Int), .int .i64 a] w fun v w' => v = .bool true ∧ RowKit.Below w.heap.size w w' := by
  refine run_culletlaw14_AfftSums (by simp) ?_
  simp only [c_culletlaw14_AfftSums, WS, List.getElem_cons_zero, List.getElem_cons_succ, Option.isNone_some, Option.isNone_none, List.getD_cons_zero, List.getD_cons_succ, I.at, atL, atO, atP, evp, evs, retV, ↓reduceIte, Nat.reduceEqDiff, reduceCtorEq]
  refine X_call0 ((culletlaw14_awake_spec w).mono ?_)
  rintro _ w1 ⟨rfl, hB⟩
  have B := hB
  have g1 := h1.up B
  have g2 := h2.up B
  clear hB
  simp (maxSteps := 1000000) (disch := omega) only [WS, List.getElem_cons_zero, List.getElem_cons_succ, Option.isNone_some, Option.isNone_none, List.getD_cons_zero, List.getD_cons_succ, I.at, atL, atO, atP, evp, evs, retV, ↓reduceIte, Nat.reduceEqDiff, reduceCtorEq, AS]
  refine X_call0 ((cut_any (m := 4096) g1 (by omega) (by omega)).mono ?_)
  rintro v w2 ⟨rfl, n, hs, hn1, hn4, hnk⟩
  have hvl : (l1.take n).length = n := by rw [List.length_take]; omega
  by_cases hlt : l2.length < l1.length
  focus
    simp (maxSteps := 1000000) (disch := omega) only [WS, List.getElem_cons_zero, List.getElem_cons_succ, Option.isNone_some, Option.isNone_none, List.getD_cons_zero, List.getD_cons_succ, I.at, atL, atO, atP, evp, evs, retV, ↓reduceIte, Nat.reduceEqDiff, reduceCtorEq, AS, hs.Xlen, hvl, g1.Xlen, g2.Xlen]
    clear hs hn1 hn4 hnk hvl
    refine X_call0 ((cut_any (m := 4096) g2 (by omega) (by omega)).mono ?_)
    rintro v w' ⟨rfl, n, hs, hn2, hn4, hnk⟩
    have hvl : (l2.take n).length = n := by rw [List.length_take]; omega
    have hn1 : n ≤ l1.length := by omega
    simp (maxSteps := 1000000) only [WS, List.getElem_cons_zero, List.getElem_cons_succ, Option.isNone_some, Option.isNone_none, List.getD_cons_zero, List.getD_cons_succ, I.at, atL, atO, atP, evp, evs, retV, ↓reduceIte, Nat.reduceEqDiff, reduceCtorEq, hs.Xlen, hvl]
  rotate_left
  focus
    have hn2 : n ≤ l2.length := by omega
    simp (maxSteps := 1000000) (disch := omega) only [WS, List.getElem_cons_zero, List.getElem_cons_succ, Option.isNone_some, Option.isNone_none, List.getD_cons_zero, List.getD_cons_succ, I.at, atL, atO, atP, evp, evs, retV, ↓reduceIte, Nat.reduceEqDiff, reduceCtorEq, decide_eq_false, hs.Xlen, hvl, g1.Xlen, g2.Xlen]
  all_goals
    by_cases hn0 : n = 0
    · simp (maxSteps := 1000000) (disch := omega) only [WS, List.getElem_cons_zero, List.getElem_cons_succ, Option.isNone_some, Option.isNone_none, List.getD_cons_zero, List.getD_cons_succ, I.at, atL, atO, atP, evp, evs, retV, ↓reduceIte, Nat.reduceEqDiff, reduceCtorEq, AS]
      exact B
    obtain ⟨k, hk, rfl⟩ : ∃ k, k ≤ 16 ∧ n = 2 ^ k := by rcases hnk with h | h; exact absurd h.1 hn0; exact h
    clear hs hvl hnk hlt g1 g2
    simp (maxSteps := 1000000) (disch := omega) only [WS, List.getElem_cons_zero, List.getElem_cons_succ, Option.isNone_some, Option.isNone_none, List.getD_cons_zero, List.getD_cons_succ, I.at, atL, atO, atP, evp, evs, retV, ↓reduceIte, Nat.reduceEqDiff, reduceCtorEq, AS]
    refine X_call0 ((culletlaw14_begin_spec _ a k hk ha).mono ?_)
    rintro _ w' ⟨rfl, p, rfl, hp1, hp2⟩
    have hC := isC_of hp1 hp2
    simp (maxSteps := 1000000) (disch := omega) only [WS, List.getElem_cons_zero, List.getElem_cons_succ, Option.isNone_some, Option.isNone_none, List.getD_cons_zero, List.getD_cons_succ, I.at, atL, atO, atP, evp, evs, retV, ↓reduceIte, Nat.reduceEqDiff, reduceCtorEq, AS]
    refine X_mks (x := (0 : El 16)) (by simp only [maxBytes]; omega) (by omega) fun sz w3 oz hB => ?_
    have oz := oz.mono B.size
    have B := B.trans (hB.mono B.size)
    clear hB
    simp (maxSteps := 1000000) (disch := omega) only [WS, List.getElem_cons_zero, List.getElem_cons_succ, Option.isNone_some, Option.isNone_none, List.getD_cons_zero, List.getD_cons_succ, I.at, atL, atO, atP, evp, evs, retV, ↓reduceIte, Nat.reduceEqDiff, reduceCtorEq, AS]
    refine loop_of (fun t w' => t 0 = s1 ∧ t 1 = s2 ∧ t 2 = .int .u16 (c.v.toNat : Int) ∧ t 9 = .int .i64 ((2 ^ k : Nat) : Int) ∧ t 10 = .int .i64 (p : Int) ∧ t 11 = sz ∧ RowKit.Below w.heap.size w w' ∧ ∃ (i : Nat) (z : List (El 16)), t 12 = .int .i64 (i : Int) ∧ i ≤ 2 ^ k ∧ Ow w.heap.size w' sz z ∧ z.length = 2 ^ k ∧ ∀ x, x < i → (co z).c x = (co l1).c x + c * (co l2).c x)
      (fun t _ => 2 ^ k - (toI (t 12)).toNat) ⟨by simp only [WS, List.getElem_cons_zero, List.getElem_cons_succ, Option.isNone_some, Option.isNone_none, List.getD_cons_zero, List.getD_cons_succ, I.at, atL, atO, atP, evp, evs, retV, ↓reduceIte, Nat.reduceEqDiff, reduceCtorEq], by simp only [WS, List.getElem_cons_zero, List.getElem_cons_succ, Option.isNone_some, Option.isNone_none, List.getD_cons_zero, List.getD_cons_succ, I.at, atL, atO, atP, evp, evs, retV, ↓reduceIte, Nat.reduceEqDiff, reduceCtorEq], by simp only [WS, List.getElem_cons_zero, List.getElem_cons_succ, Option.isNone_some, Option.isNone_none, List.getD_cons_zero, List.getD_cons_succ, I.at, atL, atO, atP, evp, evs, retV, ↓reduceIte, Nat.reduceEqDiff, reduceCtorEq], by simp only [WS, List.getElem_cons_zero, List.getElem_cons_succ, Option.isNone_some, Option.isNone_none, List.getD_cons_zero, List.getD_cons_succ, I.at, atL, atO, atP, evp, evs, retV, ↓reduceIte, Nat.reduceEqDiff, reduceCtorEq], by simp only [WS, List.getElem_cons_zero, List.getElem_cons_succ, Option.isNone_some, Option.isNone_none, List.getD_cons_zero, List.getD_cons_succ, I.at, atL, atO, atP, evp, evs, retV, ↓reduceIte, Nat.reduceEqDiff, reduceCtorEq], by simp only [WS, List.getElem_cons_zero, List.getElem_cons_succ, Option.isNone_some, Option.isNone_none, List.getD_cons_zero, List.getD_cons_succ, I.at, atL, atO, atP, evp, evs, retV, ↓reduceIte, Nat.reduceEqDiff, reduceCtorEq], B, 0, _, by simp only [WS, List.getElem_cons_zero, List.getElem_cons_succ, Option.isNone_some, Option.isNone_none, List.getD_cons_zero, List.getD_cons_succ, I.at, atL, atO, atP, evp, evs, retV, ↓reduceIte, Nat.reduceEqDiff, reduceCtorEq]; rfl, by omega, oz, by simp, fun x hx => by omega⟩ ?_
    clear B oz
    rintro t w4 ⟨t0, t1, t2, t9, t10, t11, B, i, z, t12, hi, oz, hz, hzc⟩
    by_cases hil : i < 2 ^ k
    · have hi1 : i < l1.length := by omega
      have hi2 : i < l2.length := by omega
      have hiz : i < z.length := by omega
      simp (maxSteps := 1000000) (disch := omega) only [WS, List.getElem_cons_zero, List.getElem_cons_succ, Option.isNone_some, Option.isNone_none, List.getD_cons_zero, List.getD_cons_succ, I.at, atL, atO, atP, evp, evs, retV, ↓reduceIte, Nat.reduceEqDiff, reduceCtorEq, AS, t0, t1, t2, t9, t10, t11, t12]
      refine WP_dops ?_
      have g1 := (h1.up B).drew
      have g2 := (h2.up B).drew
      have see1 : Fw.sees Try.prog (.ld (.c (elP s1 i))) w4.drew (.int .u16 (l1[i].v.toNat : Int)) = True := g1.sees hi1 Try.prog
      simp (maxSteps := 1000000) (disch := omega) only [ES, List.mem_cons, List.not_mem_nil, implies_true, forall_const, WS, List.getElem_cons_zero, List.getElem_cons_succ, Option.isNone_some, Option.isNone_none, List.getD_cons_zero, List.getD_cons_succ, I.at, atL, atO, atP, evp, evs, retV, ↓reduceIte, Nat.reduceEqDiff, reduceCtorEq, AS, t0, t1, t2, t9, t10, t11, t12, g1.Eix hi1, g1.Eld hi1, g2.Eix hi2, g2.Eld hi2, cell_e16]
      refine E_call0 ((gf16_Mul_spec w4.drew c l2[i]).mono ?_)
      rintro _ w5 ⟨rfl, rfl⟩
      simp (maxSteps := 1000000) (disch := omega) only [ES, List.mem_cons, List.not_mem_nil, implies_true, forall_const, WS, List.getElem_cons_zero, List.getElem_cons_succ, Option.isNone_some, Option.isNone_none, List.getD_cons_zero, List.getD_cons_succ, I.at, atL, atO, atP, evp, evs, retV, ↓reduceIte, Nat.reduceEqDiff, reduceCtorEq, AS, see1, xor16, oz.drew.sl.Eix hiz]
      refine Ow.Est oz.drew hiz (l1[i] + c * l2[i]) fun w6 oz6 hg6 => ?_
      have B6 := (B.trans ((bel_drew w4).mono B.size)).grown hg6 B.size fun b hb => (oz.blk b hb).1
      have see2 : Fw.sees Try.prog (.ld (.c (elP s1 i))) w6 (.int .u16 (l1[i].v.toNat : Int)) = True := (h1.up B6).sees hi1 Try.prog
      have see3 : Fw.sees Try.prog (.ld (.c (elP s2 i))) w6 (.int .u16 (l2[i].v.toNat : Int)) = True := (h2.up B6).sees hi2 Try.prog
      simp (maxSteps := 1000000) (disch := omega) only [ES, List.mem_cons, List.not_mem_nil, implies_true, forall_const, WS, List.getElem_cons_zero, List.getElem_cons_succ, Option.isNone_some, Option.isNone_none, List.getD_cons_zero, List.getD_cons_succ, I.at, atL, atO, atP, evp, evs, retV, ↓reduceIte, Nat.reduceEqDiff, reduceCtorEq, AS, t0, t1, t2, t9, t10, t11, t12, see2, see3]
      refine ⟨⟨B6, i + 1, _, rfl, by omega, oz6, by simp [hz], fun x hx => ?_⟩, by omega⟩
      rw [co_set _ hiz]
      by_cases hxi : x = i
      · subst hxi; rw [if_pos rfl, co_get l1 hi1, co_get l2 hi2]
      · rw [if_neg hxi]; exact hzc x (by omega)
    · obtain rfl : i = 2 ^ k := by omega
      have g1 := h1.up B
      simp (maxSteps := 1000000) (disch := omega) only [WS, List.getElem_cons_zero, List.getElem_cons_succ, Option.isNone_some, Option.isNone_none, List.getD_cons_zero, List.getD_cons_succ, I.at, atL, atO, atP, evp, evs, retV, ↓reduceIte, Nat.reduceEqDiff, reduceCtorEq, AS, t0, t1, t2, t9, t10, t11, t12, g1.XslcHi hn1]
      have hs1 := g1.sub (Nat.zero_le (2 ^ k)) hn1
      rw [List.drop_zero] at hs1
      have hl1 : (l1.take (2 ^ k)).length = 2 ^ k := by rw [List.length_take]; omega
      refine X_call0 ((fwd_any hs1 hl1 hk hC).mono ?_)
      rintro _ w5 ⟨su, u, rfl, ou, lu, hu, hB⟩
      have ou := ou.sl
      have oz := oz.up hB
      have B := B.trans (hB.mono B.size)
      clear hB
      have g2 := h2.up B
      simp (maxSteps := 1000000) (disch := omega) only [WS, List.getElem_cons_zero, List.getElem_cons_succ, Option.isNone_some, Option.isNone_none, List.getD_cons_zero, List.getD_cons_succ, I.at, atL, atO, atP, evp, evs, retV, ↓reduceIte, Nat.reduceEqDiff, reduceCtorEq, AS, t0, t1, t2, t9, t10, t11, t12, g2.XslcHi hn2]
      have hs2 := g2.sub (Nat.zero_le (2 ^ k)) hn2
      rw [List.drop_zero] at hs2
      have hl2 : (l2.take (2 ^ k)).length = 2 ^ k := by rw [List.length_take]; omega
      refine X_call0 ((fwd_any hs2 hl2 hk hC).mono ?_)
      rintro _ w6 ⟨sv, v, rfl, ov, lv, hv, hB⟩
      have ov := ov.sl
      have oz := oz.up hB
      have ou := ou.up hB
      have B := B.trans (hB.mono B.size)
      clear hB
      simp (maxSteps := 1000000) (disch := omega) only [WS, List.getElem_cons_zero, List.getElem_cons_succ, Option.isNone_some, Option.isNone_none, List.getD_cons_zero, List.getD_cons_succ, I.at, atL, atO, atP, evp, evs, retV, ↓reduceIte, Nat.reduceEqDiff, reduceCtorEq, AS, t0, t1, t2, t9, t10, t11, t12]
      refine X_call0 ((fwd_any oz.sl hz hk hC).mono ?_)
      rintro _ w7 ⟨sy, y, rfl, oy, ly, hy, hB⟩
      have oy := oy.sl
      have ou := ou.up hB
      have ov := ov.up hB
      have B := B.trans (hB.mono B.size)
      clear hB
      have hval : ∀ x, x < 2 ^ k → (co y).c x = (co u).c x + c * (co v).c x := fun x hx => by
        rw [hy x hx, hu x hx, hv x hx]
        rw [itF_loc (n := 2 ^ k) (g := fun x => (co (l1.take (2 ^ k))).c x + c * (co (l2.take (2 ^ k))).c x) (Nat.mod_self _) (fun j hj => by rw [hzc j hj, co_takeL, co_takeL, if_pos hj, if_pos hj]) x hx, itF_lin]
      simp (maxSteps := 1000000) (disch := omega) only [WS, List.getElem_cons_zero, List.getElem_cons_succ, Option.isNone_some, Option.isNone_none, List.getD_cons_zero, List.getD_cons_succ, I.at, atL, atO, atP, evp, evs, retV, ↓reduceIte, Nat.reduceEqDiff, reduceCtorEq, AS, t0, t1, t2, t9, t10, t11, t12, ou.Xlen, ov.Xlen, oy.Xlen, lu, lv, ly]
      refine loop_of (fun t w' => t 2 = .int .u16 (c.v.toNat : Int) ∧ t 9 = .int .i64 ((2 ^ k : Nat) : Int) ∧ t 13 = su ∧ t 15 = sv ∧ t 17 = sy ∧ RowKit.Below w.heap.size w w' ∧ Sl w' su u ∧ Sl w' sv v ∧ Sl w' sy y ∧ ∃ (i : Nat), t 19 = .int .i64 (i : Int) ∧ i ≤ 2 ^ k) (fun t _ => 2 ^ k - (toI (t 19)).toNat)
        ⟨by simp only [WS, List.getElem_cons_zero, List.getElem_cons_succ, Option.isNone_some, Option.isNone_none, List.getD_cons_zero, List.getD_cons_succ, I.at, atL, atO, atP, evp, evs, retV, ↓reduceIte, Nat.reduceEqDiff, reduceCtorEq]; exact t2, by simp only [WS, List.getElem_cons_zero, List.getElem_cons_succ, Option.isNone_some, Option.isNone_none, List.getD_cons_zero, List.getD_cons_succ, I.at, atL, atO, atP, evp, evs, retV, ↓reduceIte, Nat.reduceEqDiff, reduceCtorEq]; exact t9, by simp only [WS, List.getElem_cons_zero, List.getElem_cons_succ, Option.isNone_some, Option.isNone_none, List.getD_cons_zero, List.getD_cons_succ, I.at, atL, atO, atP, evp, evs, retV, ↓reduceIte, Nat.reduceEqDiff, reduceCtorEq], by simp only [WS, List.getElem_cons_zero, List.getElem_cons_succ, Option.isNone_some, Option.isNone_none, List.getD_cons_zero, List.getD_cons_succ, I.at, atL, atO, atP, evp, evs, retV, ↓reduceIte, Nat.reduceEqDiff, reduceCtorEq], by simp only [WS, List.getElem_cons_zero, List.getElem_cons_succ, Option.isNone_some, Option.isNone_none, List.getD_cons_zero, List.getD_cons_succ, I.at, atL, atO, atP, evp, evs, retV, ↓reduceIte, Nat.reduceEqDiff, reduceCtorEq], B, ou, ov, oy, 0, rfl, by omega⟩ ?_
      clear t0 t1 t2 t9 t10 t11 t12 B ou ov oy oz hu hv hy hs1 hs2 hzc g1 g2
      rintro t w8 ⟨t2, t9, t13, t15, t17, B, ou, ov, oy, i, t19, hi⟩
      by_cases hil : i < 2 ^ k
      · have i1 : i < u.length := by omega
        have i2 : i < v.length := by omega
        have i3 : i < y.length := by omega
        simp (maxSteps := 1000000) (disch := omega) only [WS, List.getElem_cons_zero, List.getElem_cons_succ, Option.isNone_some, Option.isNone_none, List.getD_cons_zero, List.getD_cons_succ, I.at, atL, atO, atP, evp, evs, retV, ↓reduceIte, Nat.reduceEqDiff, reduceCtorEq, AS, t2, t9, t13, t15, t17, t19]
        refine WP_dops ?_
        have ou := ou.drew
        have ov := ov.drew
        have oy := oy.drew
        have see1 : Fw.sees Try.prog (.ld (.c (elP su i))) w8.drew (.int .u16 (u[i].v.toNat : Int)) = True := ou.sees i1 Try.prog
        have see2 : Fw.sees Try.prog (.ld (.c (elP sy i))) w8.drew (.int .u16 (y[i].v.toNat : Int)) = True := oy.sees i3 Try.prog
        simp (maxSteps := 1000000) (disch := omega) only [ES, List.mem_cons, List.not_mem_nil, implies_true, forall_const, WS, List.getElem_cons_zero, List.getElem_cons_succ, Option.isNone_some, Option.isNone_none, List.getD_cons_zero, List.getD_cons_succ, I.at, atL, atO, atP, evp, evs, retV, ↓reduceIte, Nat.reduceEqDiff, reduceCtorEq, AS, t2, t9, t13, t15, t17, t19, ou.Eix i1, ou.Eld i1, ov.Eix i2, ov.Eld i2, oy.Eix i3, oy.Eld i3, cell_e16]
        refine E_call0 ((gf16_Mul_spec w8.drew c v[i]).mono ?_)
        rintro _ w9 ⟨rfl, rfl⟩
        have hv := hval i hil
        rw [co_get y i3, co_get u i1, co_get v i2] at hv
        simp (maxSteps := 1000000) (disch := omega) only [ES, List.mem_cons, List.not_mem_nil, implies_true, forall_const, WS, List.getElem_cons_zero, List.getElem_cons_succ, Option.isNone_some, Option.isNone_none, List.getD_cons_zero, List.getD_cons_succ, I.at, atL, atO, atP, evp, evs, retV, ↓reduceIte, Nat.reduceEqDiff, reduceCtorEq, AS, see1, see2, xor16, ← hv, show decide ((y[i].v.toNat : Int) = (y[i].v.toNat : Int)) = true from decide_eq_true rfl, t2, t9, t13, t15, t17, t19]
        refine ⟨⟨B.trans ((bel_drew w8).mono B.size), ou, ov, oy, i + 1, rfl, by omega⟩, by omega⟩
      · simp (maxSteps := 1000000) (disch := omega) only [WS, List.getElem_cons_zero, List.getElem_cons_succ, Option.isNone_some, Option.isNone_none, List.getD_cons_zero, List.getD_cons_succ, I.at, atL, atO, atP, evp, evs, retV, ↓reduceIte, Nat.reduceEqDiff, reduceCtorEq, AS, t2, t9, t13, t15, t17, t19]
        exact B
end Go.Proofs.Ytpmfeaajpjjfiaa.Fw
