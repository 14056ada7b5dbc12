import Derived.Test.YtbaljbadlfopgaaProg
import Derived.Test.YtbaljbadlfopgaaFwTT
import Derived.Test.YtbaljbadlfopgaaGfLgT
set_option linter.all false
set_option linter.unusedVariables false
set_option linter.unusedSimpArgs false
set_option maxRecDepth 100000
set_option maxHeartbeats 1000000
namespace Go.Proofs.Ytbaljbadlfopgaa.Fw
open Go Go.Fw Go.Proofs
attribute [local irreducible] stepI
def c_culletlaw19_isColumn : C := .seq (.ops [⟨0, (some 8), none, .mov (.c (.bool false)), []⟩]) (.seq (.seq (.ops [⟨0, (some 15), none, .mov (.t 1), []⟩, ⟨1, (some 9), none, .mov (.t 15), []⟩]) (.block 0 (.loop (.seq (.seq (.ops [⟨0, (some 16), none, .mov (.t 9), []⟩, ⟨1, (some 17), none, .mov (.t 1), []⟩, ⟨2, (some 18), none, .mov (.t 2), []⟩, ⟨3, (some 19), none, .bin .add (.t 17) (.t 18), []⟩, ⟨4, (some 20), none, .bin .lss (.t 16) (.t 19), []⟩]) (.ite (.t 20) .skip (.exit 0))) (.seq (.block 1 (.seq (.ops [⟨0, (some 10), none, .mov (.c (.int .u8 0)), []⟩]) (.seq (.seq (.ops [⟨0, (some 11), none, .mov (.c (.int .i64 0)), []⟩]) (.block 2 (.loop (.seq (.seq (.ops [⟨0, (some 23), none, .mov (.t 11), []⟩, ⟨1, (some 24), none, .mov (.t 1), []⟩, ⟨2, (some 25), none, .bin .lss (.t 23) (.t 24), []⟩]) (.ite (.t 25) .skip (.exit 2))) (.seq (.block 3 (.seq (.ops [⟨0, (some 29), none, .mov (.t 3), []⟩, ⟨1, (some 30), none, .mov (.t 11), []⟩, ⟨2, (some 31), none, .ixs 1 (.t 29) (.t 30), []⟩, ⟨3, (some 32), none, .ld (.t 31), []⟩, ⟨4, (some 33), none, .mov (.t 9), []⟩, ⟨5, (some 34), none, .mov (.t 11), []⟩, ⟨6, (some 35), none, .bin .xor (.t 33) (.t 34), []⟩, ⟨7, (some 36), none, .cnv .u8 (.t 35), []⟩, ⟨8, (some 37), none, .call (.c (.func (.func 61) #[] #[])) [.t 32, .t 36], []⟩, ⟨9, (some 28), none, .mov (.t 37), []⟩, ⟨10, (some 38), none, .ext (.t 28) 0, []⟩, ⟨11, (some 39), none, .ext (.t 28) 1, []⟩, ⟨12, (some 12), none, .mov (.t 38), []⟩, ⟨13, (some 13), none, .mov (.t 39), []⟩]) (.seq (.seq (.ops [⟨0, (some 40), none, .mov (.t 0), []⟩, ⟨1, (some 41), none, .bin .eql (.t 40) (.c (.int .i64 0)), []⟩]) (.ite (.t 41) (.seq (.seq (.ops [⟨0, (some 14), none, .mov (.c (.int .i64 0)), []⟩]) (.block 4 (.loop (.seq (.seq (.ops [⟨0, (some 42), none, .mov (.t 14), []⟩, ⟨1, (some 43), none, .mov (.t 1), []⟩, ⟨2, (some 44), none, .bin .lss (.t 42) (.t 43), []⟩]) (.ite (.t 44) .skip (.exit 4))) (.seq (.block 5 (.seq (.ops [⟨0, (some 47), none, .mov (.t 14), []⟩, ⟨1, (some 48), none, .mov (.t 11), []⟩, ⟨2, (some 49), none, .bin .neq (.t 47) (.t 48), []⟩]) (.ite (.t 49) (.seq (.ops [⟨0, (some 50), none, .mov (.t 12), []⟩, ⟨1, (some 51), none, .mov (.t 9), []⟩, ⟨2, (some 52), none, .mov (.t 14), []⟩, ⟨3, (some 53), none, .bin .xor (.t 51) (.t 52), []⟩, ⟨4, (some 54), none, .cnv .u8 (.t 53), []⟩, ⟨5, (some 55), none, .call (.c (.func (.func 53) #[] #[])) [.t 50, .t 54], []⟩, ⟨6, (some 12), none, .mov (.t 55), []⟩]) (.ops [⟨0, (some 57), none, .mov (.t 12), []⟩, ⟨1, (some 58), none, .mov (.t 11), []⟩, ⟨2, (some 59), none, .mov (.t 14), []⟩, ⟨3, (some 60), none, .bin .xor (.t 58) (.t 59), []⟩, ⟨4, (some 61), none, .cnv .u8 (.t 60), []⟩, ⟨5, (some 62), none, .call (.c (.func (.func 61) #[] #[])) [.t 57, .t 61], []⟩, ⟨6, (some 56), none, .mov (.t 62), []⟩, ⟨7, (some 63), none, .ext (.t 56) 0, []⟩, ⟨8, (some 64), none, .ext (.t 56) 1, []⟩, ⟨9, (some 12), none, .mov (.t 63), []⟩])) .skip))) (.ops [⟨0, (some 45), none, .mov (.t 14), []⟩, ⟨1, (some 46), none, .bin .add (.t 45) (.c (.int .i64 1)), []⟩, ⟨2, (some 14), none, .mov (.t 46), []⟩])))))) (.ops [⟨0, (some 65), none, .mov (.t 12), []⟩, ⟨1, (some 66), none, .mov (.t 9), []⟩, ⟨2, (some 67), none, .mov (.t 11), []⟩, ⟨3, (some 68), none, .bin .xor (.t 66) (.t 67), []⟩, ⟨4, (some 69), none, .cnv .u8 (.t 68), []⟩, ⟨5, (some 70), none, .call (.c (.func (.func 53) #[] #[])) [.t 65, .t 69], []⟩, ⟨6, (some 12), none, .mov (.t 70), []⟩])) .skip)) (.ops [⟨0, (some 71), none, .mov (.t 10), []⟩, ⟨1, (some 72), none, .mov (.t 12), []⟩, ⟨2, (some 73), none, .bin .xor (.t 71) (.t 72), []⟩, ⟨3, (some 10), none, .mov (.t 73), []⟩])))) (.ops [⟨0, (some 26), none, .mov (.t 11), []⟩, ⟨1, (some 27), none, .bin .add (.t 26) (.c (.int .i64 1)), []⟩, ⟨2, (some 11), none, .mov (.t 27), []⟩])))))) (.seq (.ops [⟨0, (some 74), none, .mov (.t 10), []⟩, ⟨1, (some 75), none, .mov (.t 3), []⟩, ⟨2, (some 76), none, .mov (.t 9), []⟩, ⟨3, (some 77), none, .ixs 1 (.t 75) (.t 76), []⟩, ⟨4, (some 78), none, .ld (.t 77), []⟩, ⟨5, (some 79), none, .bin .neq (.t 74) (.t 78), []⟩]) (.ite (.t 79) (.seq (.ops [⟨0, (some 8), none, .mov (.c (.bool false)), []⟩]) .ret) .skip))))) (.ops [⟨0, (some 21), none, .mov (.t 9), []⟩, ⟨1, (some 22), none, .bin .add (.t 21) (.c (.int .i64 1)), []⟩, ⟨2, (some 9), none, .mov (.t 22), []⟩])))))) (.seq (.ops [⟨0, (some 8), none, .mov (.c (.bool true)), []⟩]) .ret))
attribute [irreducible] c_culletlaw19_isColumn
theorem run_culletlaw19_isColumn {args : List Value} {w : World} {K : Value → World → Prop} (hn : args.length ≤ 80) (h : WP Try.prog c_culletlaw19_isColumn (endQ [.t 8] K) (initT args) w) : CallV Try.prog 27 args w K :=
  call_of follows Try.func27 (by kernel_rfl) (by kernel_rfl) hn h
end Go.Proofs.Ytbaljbadlfopgaa.Fw
namespace Go.Proofs.Ytbaljbadlfopgaa.Fw
open Go Go.Fw
/-- isColumn's term of l: with t factors done. -/
def vtm (xi c : El 8) (l : Nat) : Nat → El 8
  | 0 => c * (xi + en8 l).inv
  | t + 1 => if t = l then vtm xi c l t else vtm xi c l t * (xi + en8 t) * (en8 l + en8 t).inv
/-- The term of l in the sum for row i. -/
def ctm (f : Int) (k : Nat) (i : Nat) (c : El 8) (l : Nat) : El 8 := if f = 0 then vtm (en8 i) c l k * (en8 i + en8 l) else c * (en8 i + en8 l).inv
/-- Is this a codeword's column? -/
def isCol (f : Int) (k n : Nat) (C : Nat → El 8) : Prop := ∀ i, k ≤ i → i < n → gsum k (fun l => ctm f k i (C l) l) = C i
theorem u8_xor {a b : Nat} (ha : a < 256) (hb : b < 256) : IntKind.u8.wrap (bitsOp .xor .i64 (a : Int) (b : Int)) = ((en8 a + en8 b).v.toNat : Int) := by
  rw [bits_xor fits_i64 (by omega) (by omega)]
  have hx : a ^^^ b < 256 := Nat.xor_lt_two_pow (n := 8) ha hb
  rw [wrap_u8 _ (by omega)]
  show ((a ^^^ b : Nat) : Int) = (((en8 a).v ^^^ (en8 b).v).toNat : Int)
  rw [BitVec.toNat_xor, en8_v ha, en8_v hb]
theorem en8_ne {a b : Nat} (ha : a < 256) (hb : b < 256) (h : a ≠ b) : en8 a + en8 b ≠ 0 := fun e => h (en8_inj ha hb (El.eq_of_add e))
theorem culletlaw19_isColumn_spec (w : World) (f : Int) (K M : Nat) (s : Value) (C : List (El 8)) (h : Sl w s C) (hl : C.length = K + M) (hk : K + M ≤ 256) (hc : isCol f K (K + M) (nth C)) :
    CallV Try.prog 27 [.int .i64 f, .int .i64 (K : Int), .int .i64 (M : Int), s] w fun v w' => v = .bool true ∧ w' = w := by
  have eKM : IntKind.i64.wrap ((K : Int) + (M : Int)) = ((K + M : Nat) : Int) := by rw [wrap_id (by omega) (by omega)]; omega
  refine run_culletlaw19_isColumn (by simp) ?_
  simp only [c_culletlaw19_isColumn, WS, List.getElem_cons_zero, List.getElem_cons_succ, Option.isNone_some, Option.isNone_none, List.getD_cons_zero, List.getD_cons_succ, I.at, atL, atO, atP, evp, evs, retV, ↓reduceIte, Nat.reduceEqDiff, reduceCtorEq]
  refine loop_of (fun t w' => w' = w ∧ t 0 = .int .i64 f ∧ t 1 = .int .i64 (K : Int) ∧ t 2 = .int .i64 (M : Int) ∧ t 3 = s ∧ ∃ i : Nat, t 9 = .int .i64 (i : Int) ∧ K ≤ i ∧ i ≤ K + M) (fun t _ => K + M - (toI (t 9)).toNat) ⟨rfl, by simp only [WS, List.getElem_cons_zero, List.getElem_cons_succ, Option.isNone_some, Option.isNone_none, List.getD_cons_zero, List.getD_cons_succ, I.at, atL, atO, atP, evp, evs, retV, ↓reduceIte, Nat.reduceEqDiff, reduceCtorEq], by simp only [WS, List.getElem_cons_zero, List.getElem_cons_succ, Option.isNone_some, Option.isNone_none, List.getD_cons_zero, List.getD_cons_succ, I.at, atL, atO, atP, evp, evs, retV, ↓reduceIte, Nat.reduceEqDiff, reduceCtorEq], by simp only [WS, List.getElem_cons_zero, List.getElem_cons_succ, Option.isNone_some, Option.isNone_none, List.getD_cons_zero, List.getD_cons_succ, I.at, atL, atO, atP, evp, evs, retV, ↓reduceIte, Nat.reduceEqDiff, reduceCtorEq], by simp only [WS, List.getElem_cons_zero, List.getElem_cons_succ, Option.isNone_some, Option.isNone_none, List.getD_cons_zero, List.getD_cons_succ, I.at, atL, atO, atP, evp, evs, retV, ↓reduceIte, Nat.reduceEqDiff, reduceCtorEq], K, by simp only [WS, List.getElem_cons_zero, List.getElem_cons_succ, Option.isNone_some, Option.isNone_none, List.getD_cons_zero, List.getD_cons_succ, I.at, atL, atO, atP, evp, evs, retV, ↓reduceIte, Nat.reduceEqDiff, reduceCtorEq], by omega, by omega⟩ ?_
  rintro t w1 ⟨rfl, t0, t1, t2, t3, i, t9, hi1, hi2⟩
  by_cases hin : i < K + M
  rotate_left
  · simp (maxSteps := 1000000) (disch := omega) only [WS, List.getElem_cons_zero, List.getElem_cons_succ, Option.isNone_some, Option.isNone_none, List.getD_cons_zero, List.getD_cons_succ, I.at, atL, atO, atP, evp, evs, retV, ↓reduceIte, Nat.reduceEqDiff, reduceCtorEq, AS, t0, t1, t2, t3, t9, eKM]
  simp (maxSteps := 1000000) (disch := omega) only [WS, List.getElem_cons_zero, List.getElem_cons_succ, Option.isNone_some, Option.isNone_none, List.getD_cons_zero, List.getD_cons_succ, I.at, atL, atO, atP, evp, evs, retV, ↓reduceIte, Nat.reduceEqDiff, reduceCtorEq, AS, t0, t1, t2, t3, t9, eKM]
  refine loop_of (fun t w' => w' = w1 ∧ t 0 = .int .i64 f ∧ t 1 = .int .i64 (K : Int) ∧ t 2 = .int .i64 (M : Int) ∧ t 3 = s ∧ t 9 = .int .i64 (i : Int) ∧ ∃ l : Nat, t 11 = .int .i64 (l : Int) ∧ l ≤ K ∧ t 10 = .int .u8 ((gsum l fun l => ctm f K i (nth C l) l).v.toNat : Int)) (fun t _ => K - (toI (t 11)).toNat) ⟨rfl, by simp only [WS, List.getElem_cons_zero, List.getElem_cons_succ, Option.isNone_some, Option.isNone_none, List.getD_cons_zero, List.getD_cons_succ, I.at, atL, atO, atP, evp, evs, retV, ↓reduceIte, Nat.reduceEqDiff, reduceCtorEq]; exact t0, by simp only [WS, List.getElem_cons_zero, List.getElem_cons_succ, Option.isNone_some, Option.isNone_none, List.getD_cons_zero, List.getD_cons_succ, I.at, atL, atO, atP, evp, evs, retV, ↓reduceIte, Nat.reduceEqDiff, reduceCtorEq]; exact t1, by simp only [WS, List.getElem_cons_zero, List.getElem_cons_succ, Option.isNone_some, Option.isNone_none, List.getD_cons_zero, List.getD_cons_succ, I.at, atL, atO, atP, evp, evs, retV, ↓reduceIte, Nat.reduceEqDiff, reduceCtorEq]; exact t2, by simp only [WS, List.getElem_cons_zero, List.getElem_cons_succ, Option.isNone_some, Option.isNone_none, List.getD_cons_zero, List.getD_cons_succ, I.at, atL, atO, atP, evp, evs, retV, ↓reduceIte, Nat.reduceEqDiff, reduceCtorEq]; exact t3, by simp only [WS, List.getElem_cons_zero, List.getElem_cons_succ, Option.isNone_some, Option.isNone_none, List.getD_cons_zero, List.getD_cons_succ, I.at, atL, atO, atP, evp, evs, retV, ↓reduceIte, Nat.reduceEqDiff, reduceCtorEq]; exact t9, 0, by simp only [WS, List.getElem_cons_zero, List.getElem_cons_succ, Option.isNone_some, Option.isNone_none, List.getD_cons_zero, List.getD_cons_succ, I.at, atL, atO, atP, evp, evs, retV, ↓reduceIte, Nat.reduceEqDiff, reduceCtorEq]; rfl, by omega, by simp only [WS, List.getElem_cons_zero, List.getElem_cons_succ, Option.isNone_some, Option.isNone_none, List.getD_cons_zero, List.getD_cons_succ, I.at, atL, atO, atP, evp, evs, retV, ↓reduceIte, Nat.reduceEqDiff, reduceCtorEq]; rfl⟩ ?_
  clear t0 t1 t2 t3 t9
  rintro t w2 ⟨rfl, t0, t1, t2, t3, t9, l, t11, hl2, t10⟩
  by_cases hlk : l < K
  rotate_left
  · obtain rfl : l = K := by omega
    have iC : i < C.length := by omega
    have e1 := hc i hi1 hin
    rw [e1, nth_get iC] at t10
    simp (maxSteps := 1000000) (disch := omega) only [WS, List.getElem_cons_zero, List.getElem_cons_succ, Option.isNone_some, Option.isNone_none, List.getD_cons_zero, List.getD_cons_succ, I.at, atL, atO, atP, evp, evs, retV, ↓reduceIte, Nat.reduceEqDiff, reduceCtorEq, AS, t0, t1, t2, t3, t9, t11, t10, h.Xix iC, h.Xld iC, cell_e8, ne_eq, not_true_eq_false, decide_false]
    exact ⟨⟨i + 1, rfl, by omega, by omega⟩, by omega⟩
  have lC : l < C.length := by omega
  have x1 := u8_xor (a := i) (b := l) (by omega) (by omega)
  have ne1 := en8_ne (a := i) (b := l) (by omega) (by omega) (by omega)
  simp (maxSteps := 1000000) (disch := omega) only [WS, List.getElem_cons_zero, List.getElem_cons_succ, Option.isNone_some, Option.isNone_none, List.getD_cons_zero, List.getD_cons_succ, I.at, atL, atO, atP, evp, evs, retV, ↓reduceIte, Nat.reduceEqDiff, reduceCtorEq, AS, t0, t1, t2, t3, t9, t11, t10, h.Xix lC, h.Xld lC, cell_e8, x1]
  refine X_call0 ((gf8_Div_spec w2 C[l] (en8 i + en8 l) ne1).mono ?_)
  rintro _ w3 ⟨rfl, rfl⟩
  have hgs : gsum (l + 1) (fun l => ctm f K i (nth C l) l) = gsum l (fun l => ctm f K i (nth C l) l) + ctm f K i C[l] l := by
    rw [← nth_get lC]; rfl
  by_cases hf : f = 0
  rotate_left
  · have e2 : ctm f K i C[l] l = C[l] * (en8 i + en8 l).inv := by unfold ctm; rw [if_neg hf]
    simp (maxSteps := 1000000) (disch := omega) only [WS, List.getElem_cons_zero, List.getElem_cons_succ, Option.isNone_some, Option.isNone_none, List.getD_cons_zero, List.getD_cons_succ, I.at, atL, atO, atP, evp, evs, retV, ↓reduceIte, Nat.reduceEqDiff, reduceCtorEq, AS, t0, t1, t2, t3, t9, t11, t10, xor8]
    exact ⟨⟨l + 1, rfl, by omega, by rw [hgs, e2]⟩, by omega⟩
  simp (maxSteps := 1000000) (disch := omega) only [WS, List.getElem_cons_zero, List.getElem_cons_succ, Option.isNone_some, Option.isNone_none, List.getD_cons_zero, List.getD_cons_succ, I.at, atL, atO, atP, evp, evs, retV, ↓reduceIte, Nat.reduceEqDiff, reduceCtorEq, AS, t0, t1, t2, t3, t9, t11, t10]
  refine loop_of (fun t w' => w' = w3 ∧ t 0 = .int .i64 f ∧ t 1 = .int .i64 (K : Int) ∧ t 2 = .int .i64 (M : Int) ∧ t 3 = s ∧ t 9 = .int .i64 (i : Int) ∧ t 11 = .int .i64 (l : Int) ∧ t 10 = .int .u8 ((gsum l fun l => ctm f K i (nth C l) l).v.toNat : Int) ∧ ∃ q : Nat, t 14 = .int .i64 (q : Int) ∧ q ≤ K ∧ t 12 = .int .u8 ((vtm (en8 i) C[l] l q).v.toNat : Int)) (fun t _ => K - (toI (t 14)).toNat) ⟨rfl, by simp only [WS, List.getElem_cons_zero, List.getElem_cons_succ, Option.isNone_some, Option.isNone_none, List.getD_cons_zero, List.getD_cons_succ, I.at, atL, atO, atP, evp, evs, retV, ↓reduceIte, Nat.reduceEqDiff, reduceCtorEq]; exact t0, by simp only [WS, List.getElem_cons_zero, List.getElem_cons_succ, Option.isNone_some, Option.isNone_none, List.getD_cons_zero, List.getD_cons_succ, I.at, atL, atO, atP, evp, evs, retV, ↓reduceIte, Nat.reduceEqDiff, reduceCtorEq]; exact t1, by simp only [WS, List.getElem_cons_zero, List.getElem_cons_succ, Option.isNone_some, Option.isNone_none, List.getD_cons_zero, List.getD_cons_succ, I.at, atL, atO, atP, evp, evs, retV, ↓reduceIte, Nat.reduceEqDiff, reduceCtorEq]; exact t2, by simp only [WS, List.getElem_cons_zero, List.getElem_cons_succ, Option.isNone_some, Option.isNone_none, List.getD_cons_zero, List.getD_cons_succ, I.at, atL, atO, atP, evp, evs, retV, ↓reduceIte, Nat.reduceEqDiff, reduceCtorEq]; exact t3, by simp only [WS, List.getElem_cons_zero, List.getElem_cons_succ, Option.isNone_some, Option.isNone_none, List.getD_cons_zero, List.getD_cons_succ, I.at, atL, atO, atP, evp, evs, retV, ↓reduceIte, Nat.reduceEqDiff, reduceCtorEq]; exact t9, by simp only [WS, List.getElem_cons_zero, List.getElem_cons_succ, Option.isNone_some, Option.isNone_none, List.getD_cons_zero, List.getD_cons_succ, I.at, atL, atO, atP, evp, evs, retV, ↓reduceIte, Nat.reduceEqDiff, reduceCtorEq]; exact t11, by simp only [WS, List.getElem_cons_zero, List.getElem_cons_succ, Option.isNone_some, Option.isNone_none, List.getD_cons_zero, List.getD_cons_succ, I.at, atL, atO, atP, evp, evs, retV, ↓reduceIte, Nat.reduceEqDiff, reduceCtorEq]; exact t10, 0, by simp only [WS, List.getElem_cons_zero, List.getElem_cons_succ, Option.isNone_some, Option.isNone_none, List.getD_cons_zero, List.getD_cons_succ, I.at, atL, atO, atP, evp, evs, retV, ↓reduceIte, Nat.reduceEqDiff, reduceCtorEq]; rfl, by omega, by simp only [WS, List.getElem_cons_zero, List.getElem_cons_succ, Option.isNone_some, Option.isNone_none, List.getD_cons_zero, List.getD_cons_succ, I.at, atL, atO, atP, evp, evs, retV, ↓reduceIte, Nat.reduceEqDiff, reduceCtorEq]; rfl⟩ ?_
  clear t0 t1 t2 t3 t9 t11 t10
  rintro t w4 ⟨rfl, t0, t1, t2, t3, t9, t11, t10, q, t14, hq, t12⟩
  by_cases hqk : q < K
  rotate_left
  · obtain rfl : q = K := by omega
    have e2 : ctm f q i C[l] l = vtm (en8 i) C[l] l q * (en8 i + en8 l) := by unfold ctm; rw [if_pos hf]
    simp (maxSteps := 1000000) (disch := omega) only [WS, List.getElem_cons_zero, List.getElem_cons_succ, Option.isNone_some, Option.isNone_none, List.getD_cons_zero, List.getD_cons_succ, I.at, atL, atO, atP, evp, evs, retV, ↓reduceIte, Nat.reduceEqDiff, reduceCtorEq, AS, t0, t1, t2, t3, t9, t11, t10, t14, t12, x1]
    refine X_call0 ((gf8_Mul_spec w4 (vtm (en8 i) C[l] l q) (en8 i + en8 l)).mono ?_)
    rintro _ w5 ⟨rfl, rfl⟩
    simp (maxSteps := 1000000) (disch := omega) only [WS, List.getElem_cons_zero, List.getElem_cons_succ, Option.isNone_some, Option.isNone_none, List.getD_cons_zero, List.getD_cons_succ, I.at, atL, atO, atP, evp, evs, retV, ↓reduceIte, Nat.reduceEqDiff, reduceCtorEq, AS, t0, t1, t2, t3, t9, t11, t10, t14, t12, xor8]
    exact ⟨⟨l + 1, rfl, by omega, by rw [hgs, e2]⟩, by omega⟩
  by_cases hql : q = l
  · have e2 : vtm (en8 i) C[l] l (q + 1) = vtm (en8 i) C[l] l q := by show (if q = l then _ else _) = _; rw [if_pos hql]
    have hne : ¬ (q : Int) ≠ (l : Int) := by omega
    simp (maxSteps := 1000000) (disch := omega) only [WS, List.getElem_cons_zero, List.getElem_cons_succ, Option.isNone_some, Option.isNone_none, List.getD_cons_zero, List.getD_cons_succ, I.at, atL, atO, atP, evp, evs, retV, ↓reduceIte, Nat.reduceEqDiff, reduceCtorEq, AS, t0, t1, t2, t3, t9, t11, t10, t14, t12, decide_eq_false hne]
    exact ⟨⟨q + 1, rfl, by omega, by rw [e2]⟩, by omega⟩
  have e2 : vtm (en8 i) C[l] l (q + 1) = vtm (en8 i) C[l] l q * (en8 i + en8 q) * (en8 l + en8 q).inv := by show (if q = l then _ else _) = _; rw [if_neg hql]
  have hne : (q : Int) ≠ (l : Int) := by omega
  have x2 := u8_xor (a := i) (b := q) (by omega) (by omega)
  have x3 := u8_xor (a := l) (b := q) (by omega) (by omega)
  have ne3 := en8_ne (a := l) (b := q) (by omega) (by omega) (by omega)
  simp (maxSteps := 1000000) (disch := omega) only [WS, List.getElem_cons_zero, List.getElem_cons_succ, Option.isNone_some, Option.isNone_none, List.getD_cons_zero, List.getD_cons_succ, I.at, atL, atO, atP, evp, evs, retV, ↓reduceIte, Nat.reduceEqDiff, reduceCtorEq, AS, t0, t1, t2, t3, t9, t11, t10, t14, t12, decide_eq_true hne, x2]
  refine X_call0 ((gf8_Mul_spec w4 (vtm (en8 i) C[l] l q) (en8 i + en8 q)).mono ?_)
  rintro _ w5 ⟨rfl, rfl⟩
  simp (maxSteps := 1000000) (disch := omega) only [WS, List.getElem_cons_zero, List.getElem_cons_succ, Option.isNone_some, Option.isNone_none, List.getD_cons_zero, List.getD_cons_succ, I.at, atL, atO, atP, evp, evs, retV, ↓reduceIte, Nat.reduceEqDiff, reduceCtorEq, AS, t0, t1, t2, t3, t9, t11, t10, t14, t12, x3]
  refine X_call0 ((gf8_Div_spec w5 (vtm (en8 i) C[l] l q * (en8 i + en8 q)) (en8 l + en8 q) ne3).mono ?_)
  rintro _ w6 ⟨rfl, rfl⟩
  simp (maxSteps := 1000000) (disch := omega) only [WS, List.getElem_cons_zero, List.getElem_cons_succ, Option.isNone_some, Option.isNone_none, List.getD_cons_zero, List.getD_cons_succ, I.at, atL, atO, atP, evp, evs, retV, ↓reduceIte, Nat.reduceEqDiff, reduceCtorEq, AS, t0, t1, t2, t3, t9, t11, t10, t14]
  exact ⟨⟨q + 1, rfl, by omega, by rw [e2]⟩, by omega⟩
end Go.Proofs.Ytbaljbadlfopgaa.Fw

set_option linter.unusedVariables false
set_option linter.unusedSimpArgs false
set_option maxRecDepth 100000
set_option maxHeartbeats 1000000
namespace Go.Proofs.Ytbaljbadlfopgaa.Fw
open Go Go.Fw Go.Proofs
attribute [local irreducible] stepI

end Go.Proofs.Ytbaljbadlfopgaa.Fw
namespace Go.Proofs.Ytbaljbadlfopgaa.Fw
open Go Go.Fw
instance : Std.Associative (α := El 8) (· * ·) := ⟨El.mul_assoc⟩
instance : Std.Commutative (α := El 8) (· * ·) := ⟨El.mul_comm⟩
theorem inv_uniq8 {x y : El 8} (hx : x ≠ 0) (h : x * y = 1) : y = x.inv := by
  have h1 : y * (x * x.inv) = x.inv := by
    rw [← El.mul_assoc, El.mul_comm y x, h, El.one_mul]
  rw [El.mul_inv x hx, El.mul_one] at h1
  exact h1
theorem inv_mul8 {a b : El 8} (ha : a ≠ 0) (hb : b ≠ 0) : (a * b).inv = a.inv * b.inv := by
  refine (inv_uniq8 (fun e => (El.mul_eq_zero.1 e).elim ha hb) ?_).symm
  have : a * b * (a.inv * b.inv) = (a * a.inv) * (b * b.inv) := by ac_rfl
  rw [this, El.mul_inv a ha, El.mul_inv b hb, El.mul_one]
theorem inv_one8 : (1 : El 8).inv = 1 := (inv_uniq8 El.one_ne (El.mul_one 1)).symm
theorem wpr_ppr (s : Nat) : ∀ l, wpr s l = ppr en8 s (en8 s) l
  | 0 => rfl
  | l + 1 => by
    unfold wpr ppr
    split
    · exact wpr_ppr s l
    · rw [wpr_ppr s l]
theorem wpr_out {i l : Nat} : ∀ k, l < k → k ≤ i → wpr i k = ppr en8 l (en8 i) k * (en8 i + en8 l)
  | 0, h, _ => absurd h (Nat.not_lt_zero _)
  | k + 1, h, hi => by
    have e1 : wpr i (k + 1) = wpr i k * (en8 i + en8 k) := by show (if k = i then _ else _) = _; rw [if_neg (by omega)]
    rw [e1]
    by_cases e : k = l
    · subst e
      have e2 : ppr en8 k (en8 i) (k + 1) = ppr en8 k (en8 i) k := by show (if k = k then _ else _) = _; rw [if_pos rfl]
      have e3 : ∀ m, m ≤ k → wpr i m = ppr en8 k (en8 i) m := fun m => by
        induction m with
        | zero => intro _; rfl
        | succ m ih =>
          intro hm
          have a1 : wpr i (m + 1) = wpr i m * (en8 i + en8 m) := by show (if m = i then _ else _) = _; rw [if_neg (by omega)]
          have a2 : ppr en8 k (en8 i) (m + 1) = ppr en8 k (en8 i) m * (en8 i + en8 m) := by show (if m = k then _ else _) = _; rw [if_neg (by omega)]
          rw [a1, a2, ih (by omega)]
      rw [e2, e3 k (Nat.le_refl _)]
    · have e2 : ppr en8 l (en8 i) (k + 1) = ppr en8 l (en8 i) k * (en8 i + en8 k) := by show (if k = l then _ else _) = _; rw [if_neg e]
      rw [e2, wpr_out (i := i) (l := l) k (by omega) (by omega)]
      ac_rfl
theorem en8_dist {k : Nat} (hk : k ≤ 256) : ∀ a b, a < k → b < k → en8 a = en8 b → a = b := fun a b ha hb e => en8_inj (by omega) (by omega) e
theorem vtm_eq {i l : Nat} (c : El 8) (hl : l < 256) : ∀ t, t ≤ 256 → vtm (en8 i) c l t = c * (en8 i + en8 l).inv * ppr en8 l (en8 i) t * (ppr en8 l (en8 l) t).inv
  | 0, _ => by
    show c * (en8 i + en8 l).inv = c * (en8 i + en8 l).inv * 1 * (1 : El 8).inv
    rw [inv_one8, El.mul_one, El.mul_one]
  | t + 1, h => by
    have ih := vtm_eq (i := i) c hl t (by omega)
    by_cases e : t = l
    · have a1 : vtm (en8 i) c l (t + 1) = vtm (en8 i) c l t := by show (if t = l then _ else _) = _; rw [if_pos e]
      have a2 : ∀ z, ppr en8 l z (t + 1) = ppr en8 l z t := fun z => by show (if t = l then _ else _) = _; rw [if_pos e]
      rw [a1, a2, a2, ih]
    · have a1 : vtm (en8 i) c l (t + 1) = vtm (en8 i) c l t * (en8 i + en8 t) * (en8 l + en8 t).inv := by show (if t = l then _ else _) = _; rw [if_neg e]
      have a2 : ∀ z, ppr en8 l z (t + 1) = ppr en8 l z t * (z + en8 t) := fun z => by show (if t = l then _ else _) = _; rw [if_neg e]
      have n1 : ppr en8 l (en8 l) t ≠ 0 := ppr_ne t fun j hj hjl e => hjl (en8_inj hl (by omega) e).symm
      rw [a1, a2, a2, ih, inv_mul8 n1 (en8_ne hl (by omega) (fun e' => e e'.symm))]
      ac_rfl
/-- The values of a short polynomial, unweighted, are a codeword's column. -/
theorem isCol_val {f : Int} {K n : Nat} (hf : f = 0 ∨ f = 1) (hn : n ≤ 256) (hK : K ≤ n) {g : List (El 8)} (hg : g.length ≤ K) : isCol f K n (valS f K g) := fun i hi1 hi2 => by
  have hL := lagr (en8_dist (k := K) (by omega)) hg (en8 i)
  have n1 : ∀ l, l < K → ppr en8 l (en8 l) K ≠ 0 := fun l hl => ppr_ne K fun j hj hjl e => hjl (en8_inj (by omega) (by omega) e).symm
  have n2 : ∀ l, l < K → en8 i + en8 l ≠ 0 := fun l hl => en8_ne (by omega) (by omega) (by omega)
  rcases hf with rfl | rfl
  · have hv : ∀ s, valS 0 K g s = evl g (en8 s) := fun s => by
      unfold valS wt
      rw [if_neg (by decide), inv_one8, El.mul_one]
    rw [hv i, hL]
    refine gsum_congr fun l hl => ?_
    rw [hv l]
    unfold ctm
    rw [if_pos rfl, vtm_eq _ (by omega) K (by omega)]
    have : evl g (en8 l) * (en8 i + en8 l).inv * ppr en8 l (en8 i) K * (ppr en8 l (en8 l) K).inv * (en8 i + en8 l) = evl g (en8 l) * (ppr en8 l (en8 l) K).inv * ppr en8 l (en8 i) K * ((en8 i + en8 l) * (en8 i + en8 l).inv) := by ac_rfl
    rw [this, El.mul_inv _ (n2 l hl), El.mul_one]
  · have hw : ∀ s, wt 1 K s = wpr s K := fun s => by unfold wt; rw [if_pos rfl]
    have hv : ∀ s, valS 1 K g s = evl g (en8 s) * (wpr s K).inv := fun s => by unfold valS; rw [hw]
    rw [hv i, hL, El.mul_comm, ← gsum_mul]
    refine gsum_congr fun l hl => ?_
    rw [hv l, wpr_ppr l]
    unfold ctm
    rw [if_neg (by decide)]
    have n3 : ppr en8 l (en8 i) K ≠ 0 := ppr_ne K fun j hj hjl e => by have := en8_inj (a := i) (b := j) (by omega) (by omega) e; omega
    rw [wpr_out K hl hi1, inv_mul8 n3 (n2 l hl)]
    have : (ppr en8 l (en8 i) K).inv * (en8 i + en8 l).inv * (evl g (en8 l) * (ppr en8 l (en8 l) K).inv * ppr en8 l (en8 i) K) = evl g (en8 l) * (ppr en8 l (en8 l) K).inv * (en8 i + en8 l).inv * (ppr en8 l (en8 i) K * (ppr en8 l (en8 i) K).inv) := by ac_rfl
    rw [this, El.mul_inv _ n3, El.mul_one]
theorem filter_getD (l : List Nat) (p : Nat → Bool) : ((List.range l.length).filter fun i => p (l.getD i 0)).map (fun i => l.getD i 0) = l.filter p := by
  have h : (List.range l.length).map (fun i => l.getD i 0) = l := List.ext_getElem (by simp) fun i h1 h2 => by
    rw [List.getElem_map, List.getElem_range, List.getD_eq_getElem?_getD, List.getElem?_eq_getElem h2]; rfl
  have := List.filter_map (p := p) (f := fun i => l.getD i 0) (l := List.range l.length)
  rw [h] at this
  rw [this]
  rfl
theorem off_iff {f : Int} {K : Nat} {L : Nat → Nat} {n : Nat} {R : Nat → List (El 8)} {t i : Nat} {g : List (El 8)} (hn : n ≤ 256) (hK : K ≤ 256) (hi : i < (prsL L n).length) : i ∈ offS f K L n R t g ↔ nth (R (prsL L n)[i]) t ≠ valS f K g (prsL L n)[i] := by
  have hw : wt f K (prsL L n)[i] ≠ 0 := wt_ne (by have := (prsL_get hi).1; omega) hK
  unfold offS
  rw [offs_mem, xsS_nth hi, ysS_nth hi]
  refine ⟨fun ⟨_, h⟩ e => h ?_, fun h => ⟨hi, fun e => h ?_⟩⟩
  · rw [e]
    unfold valS
    rw [El.mul_comm (evl g _), ← El.mul_assoc, El.mul_inv _ hw, El.one_mul]
  · unfold valS
    rw [e]
    have : wt f K (prsL L n)[i] * nth (R (prsL L n)[i]) t * (wt f K (prsL L n)[i]).inv = nth (R (prsL L n)[i]) t * (wt f K (prsL L n)[i] * (wt f K (prsL L n)[i]).inv) := by ac_rfl
    rw [this, El.mul_inv _ hw, El.mul_one]
theorem getD_get {l : List Nat} {i : Nat} (h : i < l.length) : l.getD i 0 = l[i] := by rw [List.getD_eq_getElem?_getD, List.getElem?_eq_getElem h]; rfl
theorem offS_len {f : Int} {K : Nat} {L : Nat → Nat} {n : Nat} {R : Nat → List (El 8)} {t : Nat} {g : List (El 8)} (hn : n ≤ 256) (hK : K ≤ 256) : (offS f K L n R t g).length = ((prsL L n).filter fun s => !decide (nth (R s) t = valS f K g s)).length := by
  rw [← filter_getD, List.length_map]
  unfold offS offs
  congr 1
  refine List.filter_congr fun i hi => ?_
  have hi := List.mem_range.1 hi
  have := off_iff (f := f) (R := R) (t := t) (g := g) hn hK hi
  unfold offS at this
  rw [offs_mem] at this
  rw [getD_get hi]
  congr 1
  refine decide_eq_decide.2 ⟨fun e => Classical.byContradiction fun h => (this.2 h).2 e, fun e => Classical.byContradiction fun h => this.1 ⟨hi, h⟩ e⟩
theorem rowS_get {f : Int} {k : Nat} {G : Nat → List (El 8)} {len s t : Nat} (h : t < (rowS f k G len s).length) : (rowS f k G len s)[t] = valS f k (G t) s := by
  have h2 : t < ((List.range len).map fun t => valS f k (G t) s).length := h
  have : ((List.range len).map fun t => valS f k (G t) s)[t] = valS f k (G t) s := by rw [List.getElem_map, List.getElem_range]
  exact this
theorem rowS_eq {f : Int} {k : Nat} {G : Nat → List (El 8)} {len s : Nat} {r : List (El 8)} (hr : r.length = len) : r = rowS f k G len s ↔ ∀ t, t < len → nth r t = valS f k (G t) s := by
  constructor
  · intro h t ht
    rw [h, nth_get (by rw [rowS_len]; exact ht)]
    exact rowS_get _
  · intro h
    refine List.ext_getElem (by rw [rowS_len, hr]) fun t h1 h2 => ?_
    have := h t (by omega)
    rw [nth_get h1] at this
    rw [this]
    exact (rowS_get _).symm
/-- The shards that are told are just those that differ. -/
theorem wrL_eq {f : Int} {K : Nat} {L : Nat → Nat} {n len : Nat} {R : Nat → List (El 8)} {G : Nat → List (El 8)} {bo : Nat → Bool} (hn : n ≤ 256) (hK : K ≤ 256) (hR : ∀ s, s ∈ prsL L n → (R s).length = len) (hb : ∀ i, bo i = true ↔ ∃ t, t < len ∧ i ∈ offS f K L n R t (G t)) :
    wrL L n bo = ((prsL L n).filter fun s => !decide (R s = rowS f K G len s)).map fun (j : Nat) => (j : Int) := by
  rw [← filter_getD, List.map_map]
  unfold wrL
  have : (List.range (prsL L n).length).filter bo = (List.range (prsL L n).length).filter fun i => !decide (R ((prsL L n).getD i 0) = rowS f K G len ((prsL L n).getD i 0)) := List.filter_congr fun i hi => by
    have hi := List.mem_range.1 hi
    rw [getD_get hi]
    have hr := hR _ (List.getElem_mem hi)
    have h1 : bo i = true ↔ ¬ R (prsL L n)[i] = rowS f K G len (prsL L n)[i] := by
      rw [hb i, rowS_eq hr]
      constructor
      · rintro ⟨t, ht, hm⟩ h
        exact (off_iff hn hK hi).1 hm (h t ht)
      · intro h
        obtain ⟨t, ht⟩ := Classical.not_forall.1 h
        obtain ⟨ht, hne⟩ := Classical.not_imp.1 ht
        exact ⟨t, ht, (off_iff hn hK hi).2 hne⟩
    by_cases h2 : R (prsL L n)[i] = rowS f K G len (prsL L n)[i]
    · rw [decide_eq_true h2]
      cases hbi : bo i
      · rfl
      · exact absurd h2 (h1.1 hbi)
    · rw [decide_eq_false h2]
      exact h1.2 h2
  rw [this]
  rfl
end Go.Proofs.Ytbaljbadlfopgaa.Fw

set_option linter.unusedVariables false
set_option linter.unusedSimpArgs false
set_option maxRecDepth 100000
set_option maxHeartbeats 1000000
namespace Go.Proofs.Ytbaljbadlfopgaa.Fw
open Go Go.Fw Go.Proofs
attribute [local irreducible] stepI
def c_culletlaw19_MendTells : C := .seq (.ops [⟨0, (some 1), none, .box 48 (.t 0), []⟩, ⟨1, (some 2), none, .mov (.c (.bool false)), []⟩]) (.seq (.seq (.ops [⟨0, (some 13), none, .call (.c (.func (.func 13) #[] #[])) [], []⟩, ⟨1, (some 14), none, .un .not (.t 13), []⟩]) (.ite (.t 14) (.seq (.ops [⟨0, (some 2), none, .mov (.c (.bool false)), []⟩]) .ret) .skip)) (.seq (.seq (.ops [⟨0, (some 15), none, .ldn 4 (.t 1), []⟩, ⟨1, (some 16), none, .call (.c (.func (.func 22) #[] #[])) [.t 15], []⟩, ⟨2, (some 17), none, .bin .gtr (.t 16) (.c (.int .i64 4194304)), []⟩]) (.ite (.t 17) (.seq (.ops [⟨0, (some 2), none, .mov (.c (.bool true)), []⟩]) .ret) .skip)) (.seq (.ops [⟨0, (some 18), none, .fad 3 (.t 1), []⟩, ⟨1, (some 19), none, .ld (.t 18), []⟩, ⟨2, (some 20), none, .call (.c (.func (.func 23) #[] #[])) [.t 19], []⟩, ⟨3, (some 3), none, .mov (.t 20), []⟩]) (.seq (.ops [⟨0, (some 22), none, .fad 0 (.t 1), []⟩, ⟨1, (some 23), none, .ld (.t 22), []⟩, ⟨2, (some 24), none, .fad 1 (.t 1), []⟩, ⟨3, (some 25), none, .ld (.t 24), []⟩, ⟨4, (some 26), none, .fad 2 (.t 1), []⟩, ⟨5, (some 27), none, .ld (.t 26), []⟩, ⟨6, (some 28), none, .mov (.t 3), []⟩, ⟨7, (some 29), none, .call (.c (.func (.func 24) #[] #[])) [.t 23, .t 25, .t 27, .t 28], []⟩, ⟨8, (some 21), none, .mov (.t 29), []⟩, ⟨9, (some 30), none, .ext (.t 21) 0, []⟩, ⟨10, (some 31), none, .ext (.t 21) 1, []⟩, ⟨11, (some 4), none, .mov (.t 30), []⟩, ⟨12, (some 5), none, .mov (.t 31), []⟩]) (.seq (.seq (.ops [⟨0, (some 32), none, .mov (.t 5), []⟩, ⟨1, (some 33), none, .bin .neq (.t 32) (.c (.int .i64 0)), []⟩]) (.ite (.t 33) (.seq (.ops [⟨0, (some 34), none, .mov (.t 4), []⟩, ⟨1, (some 35), none, .len (.t 34), []⟩, ⟨2, (some 36), none, .bin .eql (.t 35) (.c (.int .i64 0)), []⟩, ⟨3, (some 37), none, .mov (.t 36), []⟩, ⟨4, (some 38), (some (37, true)), .mov (.t 3), []⟩, ⟨5, (some 39), (some (37, true)), .fad 3 (.t 1), []⟩, ⟨6, (some 40), (some (37, true)), .ld (.t 39), []⟩, ⟨7, (some 41), (some (37, true)), .call (.c (.func (.func 25) #[] #[])) [.t 38, .t 40], []⟩, ⟨8, (some 42), none, .pick (.t 37) (.t 41) (.c (.bool false)), []⟩, ⟨9, (some 2), none, .mov (.t 42), []⟩]) .ret) .skip)) (.seq (.seq (.ops [⟨0, (some 43), none, .fad 0 (.t 1), []⟩, ⟨1, (some 44), none, .ld (.t 43), []⟩, ⟨2, (some 45), none, .fad 1 (.t 1), []⟩, ⟨3, (some 46), none, .ld (.t 45), []⟩, ⟨4, (some 47), none, .fad 2 (.t 1), []⟩, ⟨5, (some 48), none, .ld (.t 47), []⟩, ⟨6, (some 49), none, .call (.c (.func (.func 26) #[] #[])) [.t 44, .t 46, .t 48], []⟩, ⟨7, (some 50), none, .un .not (.t 49), []⟩, ⟨8, (some 51), none, .mov (.t 50), []⟩, ⟨9, (some 52), (some (51, false)), .mov (.t 3), []⟩, ⟨10, (some 53), (some (51, false)), .len (.t 52), []⟩, ⟨11, (some 54), (some (51, false)), .fad 1 (.t 1), []⟩, ⟨12, (some 55), (some (51, false)), .ld (.t 54), []⟩, ⟨13, (some 56), (some (51, false)), .fad 2 (.t 1), []⟩, ⟨14, (some 57), (some (51, false)), .ld (.t 56), []⟩, ⟨15, (some 58), (some (51, false)), .bin .add (.t 55) (.t 57), []⟩, ⟨16, (some 59), (some (51, false)), .bin .neq (.t 53) (.t 58), []⟩, ⟨17, (some 60), none, .pick (.t 51) (.c (.bool true)) (.t 59), []⟩, ⟨18, (some 61), none, .mov (.t 60), []⟩, ⟨19, (some 62), (some (61, false)), .fad 3 (.t 1), []⟩, ⟨20, (some 63), (some (61, false)), .ld (.t 62), []⟩, ⟨21, (some 64), (some (61, false)), .len (.t 63), []⟩, ⟨22, (some 65), (some (61, false)), .mov (.t 3), []⟩, ⟨23, (some 66), (some (61, false)), .len (.t 65), []⟩, ⟨24, (some 67), (some (61, false)), .bin .neq (.t 64) (.t 66), []⟩, ⟨25, (some 68), none, .pick (.t 61) (.c (.bool true)) (.t 67), []⟩]) (.ite (.t 68) (.seq (.ops [⟨0, (some 2), none, .mov (.c (.bool false)), []⟩]) .ret) .skip)) (.seq (.ops [⟨0, (some 6), none, .mov (.c (.int .i64 0)), []⟩]) (.seq (.ops [⟨0, (some 7), none, .mov (.c (.slice none 0 0)), []⟩]) (.seq (.seq (.ops [⟨0, (some 8), none, .mov (.c (.int .i64 0)), []⟩]) (.block 0 (.loop (.seq (.seq (.ops [⟨0, (some 69), none, .mov (.t 8), []⟩, ⟨1, (some 70), none, .mov (.t 3), []⟩, ⟨2, (some 71), none, .len (.t 70), []⟩, ⟨3, (some 72), none, .bin .lss (.t 69) (.t 71), []⟩]) (.ite (.t 72) .skip (.exit 0))) (.seq (.block 1 (.seq (.seq (.dops [⟨0, (some 75), none, .mov (.t 3), []⟩, ⟨1, (some 76), none, .mov (.t 8), []⟩, ⟨2, (some 77), none, .ixs 1 (.t 75) (.t 76), []⟩, ⟨3, (some 78), none, .ld (.t 77), []⟩, ⟨4, (some 79), none, .len (.t 78), []⟩, ⟨5, (some 80), none, .mov (.t 3), []⟩, ⟨6, (some 81), none, .ixs 1 (.t 80) (.c (.int .i64 0)), []⟩, ⟨7, (some 82), none, .ld (.t 81), []⟩, ⟨8, (some 83), none, .len (.t 82), []⟩, ⟨9, (some 84), none, .bin .neq (.t 79) (.t 83), []⟩, ⟨10, (some 85), none, .mov (.t 84), []⟩, ⟨11, (some 86), (some (85, false)), .mov (.t 3), []⟩, ⟨12, (some 87), (some (85, false)), .mov (.t 8), []⟩, ⟨13, (some 88), (some (85, false)), .ixs 1 (.t 86) (.t 87), []⟩, ⟨14, (some 89), (some (85, false)), .ld (.t 88), []⟩, ⟨15, (some 90), (some (85, false)), .len (.t 89), []⟩, ⟨16, (some 91), (some (85, false)), .bin .eql (.t 90) (.c (.int .i64 0)), []⟩, ⟨17, (some 92), none, .pick (.t 85) (.c (.bool true)) (.t 91), []⟩]) (.ite (.t 92) (.seq (.ops [⟨0, (some 2), none, .mov (.c (.bool false)), []⟩]) .ret) .skip)) (.seq (.ops [⟨0, (some 93), none, .fad 3 (.t 1), []⟩, ⟨1, (some 94), none, .ld (.t 93), []⟩, ⟨2, (some 95), none, .mov (.t 8), []⟩, ⟨3, (some 96), none, .ixs 1 (.t 94) (.t 95), []⟩, ⟨4, (some 97), none, .ld (.t 96), []⟩, ⟨5, (some 98), none, .len (.t 97), []⟩, ⟨6, (some 99), none, .bin .eql (.t 98) (.c (.int .i64 0)), []⟩]) (.ite (.t 99) (.ops [⟨0, (some 100), none, .mov (.t 6), []⟩, ⟨1, (some 101), none, .bin .add (.t 100) (.c (.int .i64 1)), []⟩, ⟨2, (some 6), none, .mov (.t 101), []⟩]) (.seq (.dops [⟨0, (some 102), none, .fad 3 (.t 1), []⟩, ⟨1, (some 103), none, .ld (.t 102), []⟩, ⟨2, (some 104), none, .mov (.t 8), []⟩, ⟨3, (some 105), none, .ixs 1 (.t 103) (.t 104), []⟩, ⟨4, (some 106), none, .ld (.t 105), []⟩, ⟨5, (some 107), none, .len (.t 106), []⟩, ⟨6, (some 108), none, .mov (.t 3), []⟩, ⟨7, (some 109), none, .mov (.t 8), []⟩, ⟨8, (some 110), none, .ixs 1 (.t 108) (.t 109), []⟩, ⟨9, (some 111), none, .ld (.t 110), []⟩, ⟨10, (some 112), none, .len (.t 111), []⟩, ⟨11, (some 113), none, .bin .neq (.t 107) (.t 112), []⟩]) (.ite (.t 113) (.seq (.ops [⟨0, (some 2), none, .mov (.c (.bool false)), []⟩]) .ret) (.seq (.dops [⟨0, (some 114), none, .fad 3 (.t 1), []⟩, ⟨1, (some 115), none, .ld (.t 114), []⟩, ⟨2, (some 116), none, .mov (.t 8), []⟩, ⟨3, (some 117), none, .ixs 1 (.t 115) (.t 116), []⟩, ⟨4, (some 118), none, .ld (.t 117), []⟩, ⟨5, (some 119), none, .mov (.t 3), []⟩, ⟨6, (some 120), none, .mov (.t 8), []⟩, ⟨7, (some 121), none, .ixs 1 (.t 119) (.t 120), []⟩, ⟨8, (some 122), none, .ld (.t 121), []⟩, ⟨9, (some 123), none, .call (.c (.func (.func 17) #[] #[])) [.t 118, .t 122], []⟩, ⟨10, (some 124), none, .un .not (.t 123), []⟩]) (.ite (.t 124) (.ops [⟨0, (some 125), none, .mov (.t 7), []⟩, ⟨1, (some 126), none, .mov (.t 8), []⟩, ⟨2, (some 127), none, .bsl 3 1 [.int .i64 0] [(0, (1, .t 126))], []⟩, ⟨3, (some 128), none, .app 3 8 [.int .i64 0] (.t 125) (.t 127), []⟩, ⟨4, (some 7), none, .mov (.t 128), []⟩]) .skip)))))))) (.ops [⟨0, (some 73), none, .mov (.t 8), []⟩, ⟨1, (some 74), none, .bin .add (.t 73) (.c (.int .i64 1)), []⟩, ⟨2, (some 8), none, .mov (.t 74), []⟩])))))) (.seq (.seq (.ops [⟨0, (some 129), none, .mov (.t 4), []⟩, ⟨1, (some 130), none, .mov (.t 7), []⟩, ⟨2, (some 131), none, .call (.c (.func (.func 20) #[] #[])) [.t 129, .t 130], []⟩, ⟨3, (some 132), none, .un .not (.t 131), []⟩, ⟨4, (some 133), none, .mov (.t 132), []⟩, ⟨5, (some 134), (some (133, false)), .mov (.t 6), []⟩, ⟨6, (some 135), (some (133, false)), .fad 2 (.t 1), []⟩, ⟨7, (some 136), (some (133, false)), .ld (.t 135), []⟩, ⟨8, (some 137), (some (133, false)), .bin .gtr (.t 134) (.t 136), []⟩, ⟨9, (some 138), none, .pick (.t 133) (.c (.bool true)) (.t 137), []⟩]) (.ite (.t 138) (.seq (.ops [⟨0, (some 2), none, .mov (.c (.bool false)), []⟩]) .ret) .skip)) (.seq (.seq (.ops [⟨0, (some 9), none, .mov (.c (.int .i64 0)), []⟩]) (.block 2 (.loop (.seq (.seq (.ops [⟨0, (some 139), none, .mov (.t 9), []⟩, ⟨1, (some 140), none, .mov (.t 3), []⟩, ⟨2, (some 141), none, .ixs 1 (.t 140) (.c (.int .i64 0)), []⟩, ⟨3, (some 142), none, .ld (.t 141), []⟩, ⟨4, (some 143), none, .len (.t 142), []⟩, ⟨5, (some 144), none, .bin .lss (.t 139) (.t 143), []⟩]) (.ite (.t 144) .skip (.exit 2))) (.seq (.block 3 (.seq (.ops [⟨0, (some 147), none, .mov (.t 3), []⟩, ⟨1, (some 148), none, .len (.t 147), []⟩, ⟨2, (some 149), none, .mks 5 1 [.int .u8 0] (.t 148) (.t 148), []⟩, ⟨3, (some 10), none, .mov (.t 149), []⟩]) (.seq (.ops [⟨0, (some 11), none, .mov (.c (.int .i64 0)), []⟩]) (.seq (.seq (.ops [⟨0, (some 12), none, .mov (.c (.int .i64 0)), []⟩]) (.block 4 (.loop (.seq (.seq (.ops [⟨0, (some 150), none, .mov (.t 12), []⟩, ⟨1, (some 151), none, .mov (.t 3), []⟩, ⟨2, (some 152), none, .len (.t 151), []⟩, ⟨3, (some 153), none, .bin .lss (.t 150) (.t 152), []⟩]) (.ite (.t 153) .skip (.exit 4))) (.seq (.block 5 (.seq (.ops [⟨0, (some 156), none, .mov (.t 10), []⟩, ⟨1, (some 157), none, .mov (.t 12), []⟩, ⟨2, (some 158), none, .mov (.t 3), []⟩, ⟨3, (some 159), none, .mov (.t 12), []⟩, ⟨4, (some 160), none, .ixs 1 (.t 158) (.t 159), []⟩, ⟨5, (some 161), none, .ld (.t 160), []⟩, ⟨6, (some 162), none, .mov (.t 9), []⟩, ⟨7, (some 163), none, .ixs 1 (.t 161) (.t 162), []⟩, ⟨8, (some 164), none, .ld (.t 163), []⟩, ⟨9, (some 165), none, .ixs 1 (.t 156) (.t 157), []⟩, ⟨10, none, none, .st (.t 165) (.t 164), []⟩]) (.seq (.dops [⟨0, (some 166), none, .fad 3 (.t 1), []⟩, ⟨1, (some 167), none, .ld (.t 166), []⟩, ⟨2, (some 168), none, .mov (.t 12), []⟩, ⟨3, (some 169), none, .ixs 1 (.t 167) (.t 168), []⟩, ⟨4, (some 170), none, .ld (.t 169), []⟩, ⟨5, (some 171), none, .len (.t 170), []⟩, ⟨6, (some 172), none, .bin .gtr (.t 171) (.c (.int .i64 0)), []⟩, ⟨7, (some 173), none, .mov (.t 172), []⟩, ⟨8, (some 174), (some (173, true)), .fad 3 (.t 1), []⟩, ⟨9, (some 175), (some (173, true)), .ld (.t 174), []⟩, ⟨10, (some 176), (some (173, true)), .mov (.t 12), []⟩, ⟨11, (some 177), (some (173, true)), .ixs 1 (.t 175) (.t 176), []⟩, ⟨12, (some 178), (some (173, true)), .ld (.t 177), []⟩, ⟨13, (some 179), (some (173, true)), .mov (.t 9), []⟩, ⟨14, (some 180), (some (173, true)), .ixs 1 (.t 178) (.t 179), []⟩, ⟨15, (some 181), (some (173, true)), .ld (.t 180), []⟩, ⟨16, (some 182), (some (173, true)), .mov (.t 10), []⟩, ⟨17, (some 183), (some (173, true)), .mov (.t 12), []⟩, ⟨18, (some 184), (some (173, true)), .ixs 1 (.t 182) (.t 183), []⟩, ⟨19, (some 185), (some (173, true)), .ld (.t 184), []⟩, ⟨20, (some 186), (some (173, true)), .bin .neq (.t 181) (.t 185), []⟩, ⟨21, (some 187), none, .pick (.t 173) (.t 186) (.c (.bool false)), []⟩]) (.ite (.t 187) (.ops [⟨0, (some 188), none, .mov (.t 11), []⟩, ⟨1, (some 189), none, .bin .add (.t 188) (.c (.int .i64 1)), []⟩, ⟨2, (some 11), none, .mov (.t 189), []⟩]) .skip)))) (.ops [⟨0, (some 154), none, .mov (.t 12), []⟩, ⟨1, (some 155), none, .bin .add (.t 154) (.c (.int .i64 1)), []⟩, ⟨2, (some 12), none, .mov (.t 155), []⟩])))))) (.seq (.ops [⟨0, (some 190), none, .mov (.t 11), []⟩, ⟨1, (some 191), none, .bin .mul (.c (.int .i64 2)) (.t 190), []⟩, ⟨2, (some 192), none, .fad 2 (.t 1), []⟩, ⟨3, (some 193), none, .ld (.t 192), []⟩, ⟨4, (some 194), none, .mov (.t 6), []⟩, ⟨5, (some 195), none, .bin .sub (.t 193) (.t 194), []⟩, ⟨6, (some 196), none, .bin .gtr (.t 191) (.t 195), []⟩, ⟨7, (some 197), none, .mov (.t 196), []⟩, ⟨8, (some 198), (some (197, false)), .fad 0 (.t 1), []⟩, ⟨9, (some 199), (some (197, false)), .ld (.t 198), []⟩, ⟨10, (some 200), (some (197, false)), .fad 1 (.t 1), []⟩, ⟨11, (some 201), (some (197, false)), .ld (.t 200), []⟩, ⟨12, (some 202), (some (197, false)), .fad 2 (.t 1), []⟩, ⟨13, (some 203), (some (197, false)), .ld (.t 202), []⟩, ⟨14, (some 204), (some (197, false)), .mov (.t 10), []⟩, ⟨15, (some 205), (some (197, false)), .call (.c (.func (.func 27) #[] #[])) [.t 199, .t 201, .t 203, .t 204], []⟩, ⟨16, (some 206), (some (197, false)), .un .not (.t 205), []⟩, ⟨17, (some 207), none, .pick (.t 197) (.c (.bool true)) (.t 206), []⟩]) (.ite (.t 207) (.seq (.ops [⟨0, (some 2), none, .mov (.c (.bool false)), []⟩]) .ret) .skip)))))) (.ops [⟨0, (some 145), none, .mov (.t 9), []⟩, ⟨1, (some 146), none, .bin .add (.t 145) (.c (.int .i64 1)), []⟩, ⟨2, (some 9), none, .mov (.t 146), []⟩])))))) (.seq (.ops [⟨0, (some 2), none, .mov (.c (.bool true)), []⟩]) .ret))))))))))))
attribute [irreducible] c_culletlaw19_MendTells
theorem run_culletlaw19_MendTells {args : List Value} {w : World} {K : Value → World → Prop} (hn : args.length ≤ 208) (h : WP Try.prog c_culletlaw19_MendTells (endQ [.t 2] K) (initT args) w) : CallV Try.prog 6 args w K :=
  call_of follows Try.func6 (by kernel_rfl) (by kernel_rfl) hn h
end Go.Proofs.Ytbaljbadlfopgaa.Fw
namespace Go.Proofs.Ytbaljbadlfopgaa.Fw
open Go Go.Fw
theorem frmB (w : World) : Frm (fun w' => RowKit.Below w.heap.size w w') (fun b => w.heap.size ≤ b) :=
  ⟨fun w1 w2 b h hb hg => h.grown hg h.size fun c hc => by cases hc; exact hb, fun w1 w2 h hB => h.trans (hB.mono h.size)⟩
theorem isCol_congr {f : Int} {k n : Nat} {C C' : Nat → El 8} (hk : k ≤ n) (h : isCol f k n C) (e : ∀ j, j < n → C' j = C j) : isCol f k n C' := fun i h1 h2 => by
  rw [e i h2, ← h i h1 h2]
  exact gsum_congr fun l hl => by rw [e l (by omega)]
theorem hln_le {hs : List Hd} {b : Nat} (h : ∀ j, j < hs.length → hln hs j ≤ b) : ∀ j, hln hs j ≤ b := fun j => by
  by_cases hj : j < hs.length
  · exact h j hj
  · unfold hln
    rw [List.getD_eq_getElem?_getD, List.getElem?_eq_none (by omega)]
    exact Nat.zero_le _
theorem mok_prm {f k m : Int} {L : Nat → Nat} {n len : Nat} (h : MOk f k m L n len) : (f = 0 ∨ f = 1) ∧ 1 ≤ k ∧ 1 ≤ m ∧ k ≤ 256 ∧ m ≤ 256 ∧ k + m ≤ 256 := ⟨h.hf, h.hk, h.hm, by have := h.hm; have := h.km; omega, by have := h.hk; have := h.km; omega, h.km⟩
set_option maxHeartbeats 8000000 in
theorem culletlaw19_MendTells_spec (w : World) (f k m : Int) (s : Value) (hs : List Hd) (R : Nat → List (El 8)) (h : Sl w s hs) (hr : ∀ j (hj : j < hs.length), Sl w (Cell.v hs[j]) (R j)) (hb : ∀ j, j < hs.length → (R j).length ≤ 140737488355328) (hn : hs.length ≤ 140737488355328) :
    CallV Try.prog 6 [.agg #[.int .i64 f, .int .i64 k, .int .i64 m, s]] w fun v w' => v = .bool true ∧ RowKit.Below w.heap.size w w' := by
  have hlr : ∀ j, j < hs.length → hln hs j = (R j).length := fun j hj => hln_row hr hj
  refine run_culletlaw19_MendTells (by simp) ?_
  simp only [c_culletlaw19_MendTells, WS, List.getElem_cons_zero, List.getElem_cons_succ, Option.isNone_some, Option.isNone_none, List.getD_cons_zero, List.getD_cons_succ, I.at, atL, atO, atP, evp, evs, retV, ↓reduceIte, Nat.reduceEqDiff, reduceCtorEq]
  refine X_box fun b w1 hrb hlb hB => ?_
  have hrb : Row w1 b [.int .i64 f, .int .i64 k, .int .i64 m, s] := hrb
  have B := hB
  have hr := fun j hj => (hr j hj).up hB
  have h := h.up hB
  clear hB hlb
  simp (maxSteps := 1000000) (disch := omega) only [WS, List.getElem_cons_zero, List.getElem_cons_succ, Option.isNone_some, Option.isNone_none, List.getD_cons_zero, List.getD_cons_succ, I.at, atL, atO, atP, evp, evs, retV, ↓reduceIte, Nat.reduceEqDiff, reduceCtorEq, AS]
  refine X_call0 ((culletlaw19_awake_spec w1).mono ?_)
  rintro _ w2 ⟨rfl, hB⟩
  have hr := fun j hj => (hr j hj).up hB
  have h := h.up hB
  have hrb := hrb.up hB
  have B := B.trans (hB.mono B.size)
  clear hB
  simp (maxSteps := 1000000) (disch := omega) only [WS, List.getElem_cons_zero, List.getElem_cons_succ, Option.isNone_some, Option.isNone_none, List.getD_cons_zero, List.getD_cons_succ, I.at, atL, atO, atP, evp, evs, retV, ↓reduceIte, Nat.reduceEqDiff, reduceCtorEq, AS, hrb.Xldn (n := 4) rfl]
  refine X_call0 ((culletlaw19_work_spec w2 f k m s hs h (hln_le fun j hj => by rw [hlr j hj]; exact hb j hj) hn).mono ?_)
  rintro _ w3 ⟨hB, x, rfl, hx⟩
  have hr := fun j hj => (hr j hj).up hB
  have h := h.up hB
  have hrb := hrb.up hB
  have B := B.trans (hB.mono B.size)
  clear hB
  by_cases hbig : x > 4194304
  · simp (maxSteps := 1000000) (disch := omega) only [WS, List.getElem_cons_zero, List.getElem_cons_succ, Option.isNone_some, Option.isNone_none, List.getD_cons_zero, List.getD_cons_succ, I.at, atL, atO, atP, evp, evs, retV, ↓reduceIte, Nat.reduceEqDiff, reduceCtorEq, AS]
    exact B
  obtain ⟨hn2, hl2⟩ := hx (by omega)
  clear hx
  simp (maxSteps := 1000000) (disch := omega) only [WS, List.getElem_cons_zero, List.getElem_cons_succ, Option.isNone_some, Option.isNone_none, List.getD_cons_zero, List.getD_cons_succ, I.at, atL, atO, atP, evp, evs, retV, ↓reduceIte, Nat.reduceEqDiff, reduceCtorEq, AS, hrb.Xld (show 3 < _ by simp)]
  refine X_call0 ((culletlaw19_twin_spec w3 s hs R h hr (by omega) (fun j hj => by rw [← hlr j hj]; have := hl2 j hj; omega)).mono ?_)
  rintro sv w4 ⟨B4, hs1, lhs1, hS⟩
  have hS := hS.frame (F' := fun w' => RowKit.Below w3.heap.size w3 w') B4
  have hln1 : ∀ j, hln hs1 j = hln hs j := fun j => by
    by_cases hj : j < hs.length
    · rw [hln_row (fun j hj => hS.sl hj) (show j < hs1.length by omega), hlr j hj]
    · unfold hln
      rw [List.getD_eq_getElem?_getD, List.getElem?_eq_none (by omega), List.getD_eq_getElem?_getD, List.getElem?_eq_none (by omega)]
  have hln1 : hln hs1 = hln hs := funext hln1
  have hrb4 := hrb.up B4
  simp (maxSteps := 1000000) (disch := omega) only [WS, List.getElem_cons_zero, List.getElem_cons_succ, Option.isNone_some, Option.isNone_none, List.getD_cons_zero, List.getD_cons_succ, I.at, atL, atO, atP, evp, evs, retV, ↓reduceIte, Nat.reduceEqDiff, reduceCtorEq, AS, hrb4.Xld (show 0 < _ by simp), hrb4.Xld (show 1 < _ by simp), hrb4.Xld (show 2 < _ by simp)]
  refine X_call0 ((mend_Shards_spec w4 f k m sv hs1 R (frmB w3) hS B4.size (fun j hj b hb hne => by obtain ⟨c, hc, hc1, -⟩ := (hS.row j hj hne).blk; rw [hc] at hb; cases hb; exact hc1) (fun b hb => (hS.top.blk b hb).1) (fun _ _ => rfl) (hln_le fun j hj => by rw [hln1]; have := hl2 j (by omega); omega)).mono ?_)
  rw [hln1]
  rintro vv w5 ⟨z5, len, ev, hL, ⟨he, rfl, hS5⟩ | ⟨he, hM, ⟨rfl, hS5, hfar⟩ | ⟨sw, G, bo, hs2, rfl, lhs2, hS5, -, -, hE, hbo, ow⟩⟩⟩
  · have E := hS5.frm
    have h5 := h.up E
    have hrb5 := hrb.up E
    simp (maxSteps := 1000000) (disch := omega) only [WS, List.getElem_cons_zero, List.getElem_cons_succ, Option.isNone_some, Option.isNone_none, List.getD_cons_zero, List.getD_cons_succ, I.at, atL, atO, atP, evp, evs, retV, ↓reduceIte, Nat.reduceEqDiff, reduceCtorEq, AS, decide_eq_true he, X_lenS, hrb5.Xld (show 3 < _ by simp)]
    refine X_call0 ((culletlaw19_same_spec w5 sv s hs1 hs R R hS5.top.sl h5 (fun j hj => hS5.sl hj) (fun j hj => (hr j hj).up E) (by omega) (by omega) (fun j hj => by rw [← hlr j (by omega)]; have := hl2 j (by omega); omega) (fun j hj => by rw [← hlr j hj]; have := hl2 j hj; omega)).mono ?_)
    rintro _ w6 ⟨hB, -, bb, rfl, hbb⟩
    simp (maxSteps := 1000000) (disch := omega) only [WS, List.getElem_cons_zero, List.getElem_cons_succ, Option.isNone_some, Option.isNone_none, List.getD_cons_zero, List.getD_cons_succ, I.at, atL, atO, atP, evp, evs, retV, ↓reduceIte, Nat.reduceEqDiff, reduceCtorEq, AS, hbb.2 ⟨lhs1, fun j hj => rfl⟩]
    exact B.trans ((E.trans (hB.mono E.size)).mono B.size)
  · have E := hS5.frm
    have h5 := h.up E
    have hrb5 := hrb.up E
    simp (maxSteps := 1000000) (disch := omega) only [WS, List.getElem_cons_zero, List.getElem_cons_succ, Option.isNone_some, Option.isNone_none, List.getD_cons_zero, List.getD_cons_succ, I.at, atL, atO, atP, evp, evs, retV, ↓reduceIte, Nat.reduceEqDiff, reduceCtorEq, AS, show decide ((190 : Int) ≠ 0) = true from rfl, X_lenS, hrb5.Xld (show 3 < _ by simp)]
    refine X_call0 ((culletlaw19_same_spec w5 sv s hs1 hs R R hS5.top.sl h5 (fun j hj => hS5.sl hj) (fun j hj => (hr j hj).up E) (by omega) (by omega) (fun j hj => by rw [← hlr j (by omega)]; have := hl2 j (by omega); omega) (fun j hj => by rw [← hlr j hj]; have := hl2 j hj; omega)).mono ?_)
    rintro _ w6 ⟨hB, -, bb, rfl, hbb⟩
    simp (maxSteps := 1000000) (disch := omega) only [WS, List.getElem_cons_zero, List.getElem_cons_succ, Option.isNone_some, Option.isNone_none, List.getD_cons_zero, List.getD_cons_succ, I.at, atL, atO, atP, evp, evs, retV, ↓reduceIte, Nat.reduceEqDiff, reduceCtorEq, AS, hbb.2 ⟨lhs1, fun j hj => rfl⟩]
    exact B.trans ((E.trans (hB.mono E.size)).mono B.size)
  rw [lhs1] at hM lhs2 hE hbo ow
  have E := hS5.frm
  have hpv := mok_prm hM
  have hk := hM.hk
  have hm := hM.hm
  have hkm := hM.km
  have hn3 := hM.hn
  have hlen := hM.hlen
  have hz := hM.hz
  have hnp := prsL_len (hln hs) hs.length
  obtain ⟨K, rfl⟩ : ∃ K : Nat, k = (K : Int) := ⟨k.toNat, by omega⟩
  obtain ⟨M, rfl⟩ : ∃ M : Nat, m = (M : Int) := ⟨m.toNat, by omega⟩
  rw [Int.toNat_natCast] at hS5 hE hbo
  have hrb5 := hrb.up E
  have h5 := h.up E
  have hr5 := fun j hj => (hr j hj).up E
  have B := B.trans (E.mono B.size)
  simp (maxSteps := 1000000) (disch := omega) only [WS, List.getElem_cons_zero, List.getElem_cons_succ, Option.isNone_some, Option.isNone_none, List.getD_cons_zero, List.getD_cons_succ, I.at, atL, atO, atP, evp, evs, retV, ↓reduceIte, Nat.reduceEqDiff, reduceCtorEq, AS, show decide ((0 : Int) ≠ 0) = false from rfl, hrb5.Xld (show 0 < _ by simp), hrb5.Xld (show 1 < _ by simp), hrb5.Xld (show 2 < _ by simp)]
  refine X_call0 ((culletlaw19_valid_spec w5 f (K : Int) (M : Int)).mono ?_)
  rintro _ w6 ⟨rfl, rfl⟩
  have eKM : IntKind.i64.wrap ((K : Int) + (M : Int)) = ((hs.length : Nat) : Int) := by rw [wrap_id (by omega) (by omega)]; omega
  simp (maxSteps := 1000000) (disch := omega) only [WS, List.getElem_cons_zero, List.getElem_cons_succ, Option.isNone_some, Option.isNone_none, List.getD_cons_zero, List.getD_cons_succ, I.at, atL, atO, atP, evp, evs, retV, ↓reduceIte, Nat.reduceEqDiff, reduceCtorEq, AS, decide_eq_true hpv, hS5.top.sl.Xlen, lhs2, hrb5.Xld (show 1 < _ by simp), hrb5.Xld (show 2 < _ by simp), hrb5.Xld (show 3 < _ by simp), eKM, h5.Xlen, ne_eq, not_true_eq_false, decide_false]
  have hn0 : 0 < hs2.length := by omega
  have hln2 : ∀ j (hj : j < hs2.length), hs2[j].n = len := fun j hj => by rw [hS5.ln hj, rowS_len]
  have hLj : ∀ j, j < hs.length → hln hs j = 0 ∨ hln hs j = len := hM.hL
  have hlen6 : len ≤ 65536 := by
    obtain ⟨a1, a2⟩ := prsL_get (L := hln hs) (n := hs.length) (i := 0) (by omega)
    have := (hM.hL _ a1).resolve_left a2
    have := hl2 _ a1
    omega
  have hwr := wrL_eq (f := f) (K := K) (L := hln hs) (n := hs.length) (len := len) (R := R) (G := G) (bo := bo) (by omega) (by omega) (fun s hs' => by obtain ⟨a1, a2⟩ := prsL_mem.1 hs'; rw [← hlr s a1]; exact (hM.hL s a1).resolve_left a2) hbo
  rw [hwr] at ow
  have ow := ow.sl
  have pS : (fun s => !decide (R s = rowS f K G len s)) = (fun s => !decide (R s = rowS f K G len s)) := rfl
  refine loop_of (fun t w' => t 1 = .pointer (some ⟨b, 0, none⟩) ∧ t 3 = sv ∧ t 4 = sw ∧ RowKit.Below w6.heap.size w6 w' ∧ ∃ (i : Nat) (sr : Value), t 8 = .int .i64 (i : Int) ∧ i ≤ hs.length ∧ t 6 = .int .i64 ((zis (hln hs) i).length : Int) ∧ t 7 = sr ∧ Ow w6.heap.size w' sr (((prsL (hln hs) i).filter fun s => !decide (R s = rowS f K G len s)).map fun (j : Nat) => (j : Int))) (fun t _ => hs.length - (toI (t 8)).toNat)
    ⟨by simp only [WS, List.getElem_cons_zero, List.getElem_cons_succ, Option.isNone_some, Option.isNone_none, List.getD_cons_zero, List.getD_cons_succ, I.at, atL, atO, atP, evp, evs, retV, ↓reduceIte, Nat.reduceEqDiff, reduceCtorEq], by simp only [WS, List.getElem_cons_zero, List.getElem_cons_succ, Option.isNone_some, Option.isNone_none, List.getD_cons_zero, List.getD_cons_succ, I.at, atL, atO, atP, evp, evs, retV, ↓reduceIte, Nat.reduceEqDiff, reduceCtorEq], by simp only [WS, List.getElem_cons_zero, List.getElem_cons_succ, Option.isNone_some, Option.isNone_none, List.getD_cons_zero, List.getD_cons_succ, I.at, atL, atO, atP, evp, evs, retV, ↓reduceIte, Nat.reduceEqDiff, reduceCtorEq], RowKit.Below.refl _ _, 0, .slice none 0 0, by simp only [WS, List.getElem_cons_zero, List.getElem_cons_succ, Option.isNone_some, Option.isNone_none, List.getD_cons_zero, List.getD_cons_succ, I.at, atL, atO, atP, evp, evs, retV, ↓reduceIte, Nat.reduceEqDiff, reduceCtorEq]; rfl, by omega, by simp only [WS, List.getElem_cons_zero, List.getElem_cons_succ, Option.isNone_some, Option.isNone_none, List.getD_cons_zero, List.getD_cons_succ, I.at, atL, atO, atP, evp, evs, retV, ↓reduceIte, Nat.reduceEqDiff, reduceCtorEq]; rfl, by simp only [WS, List.getElem_cons_zero, List.getElem_cons_succ, Option.isNone_some, Option.isNone_none, List.getD_cons_zero, List.getD_cons_succ, I.at, atL, atO, atP, evp, evs, retV, ↓reduceIte, Nat.reduceEqDiff, reduceCtorEq], Or.inl ⟨rfl, rfl⟩⟩ ?_
  rintro t w7 ⟨t1, t3, t4, C, i, sr, t8, hi, t6, t7, or⟩
  have hS7 := hS5.up (frmB w3) C
  have hsl := hS7.top.sl
  have hl0 : ((hs2.length : Nat) : Int) = (hs.length : Int) := by omega
  by_cases hil : i < hs.length
  · have hil2 : i < hs2.length := by omega
    have e0 := hln2 0 hn0
    have ei := hln2 i hil2
    have hx := hln_get hs hil
    simp (maxSteps := 1000000) (disch := omega) only [WS, List.getElem_cons_zero, List.getElem_cons_succ, Option.isNone_some, Option.isNone_none, List.getD_cons_zero, List.getD_cons_succ, I.at, atL, atO, atP, evp, evs, retV, ↓reduceIte, Nat.reduceEqDiff, reduceCtorEq, AS, t1, t3, t4, t8, t6, t7, hsl.Xlen, hl0]
    refine WP_dops ?_
    have bd := bel_drew w7
    have C := C.trans (bd.mono C.size)
    have or := or.up bd
    clear bd hsl hS7
    have hS7 := hS5.up (frmB w3) C
    have hsl := hS7.top.sl
    have h7 := h5.up C
    have hrb7 := hrb5.up C
    have zi := zis_succ (hln hs) i
    have pi := prsL_succ (hln hs) i
    have zle := zis_le (hln hs) i
    have el0 : ¬ ((len : Nat) : Int) = 0 := by omega
    by_cases h0 : hln hs i = 0
    · have h0' : hs[i].n = 0 := by rw [← hx]; exact h0
      rw [if_pos h0] at zi pi
      have e9 : IntKind.i64.wrap (((zis (hln hs) i).length : Int) + 1) = (((zis (hln hs) i ++ [(i : Int)]).length : Nat) : Int) := by rw [List.length_append, List.length_singleton, wrap_id (by omega) (by omega)]; rfl
      simp (maxSteps := 1000000) (disch := omega) only [ES, List.mem_cons, List.not_mem_nil, implies_true, forall_const, WS, List.getElem_cons_zero, List.getElem_cons_succ, Option.isNone_some, Option.isNone_none, List.getD_cons_zero, List.getD_cons_succ, I.at, atL, atO, atP, evp, evs, retV, ↓reduceIte, Nat.reduceEqDiff, reduceCtorEq, AS, t1, t3, t4, t8, t6, t7, hsl.Eix hil2, hsl.Eld hil2, hsl.Eix0 hn0, hsl.Eld hn0, cell_hd, E_lenS, e0, ei, ne_eq, not_true_eq_false, decide_false, el0, hrb7.Xld (show 3 < _ by simp), h7.Xix hil, h7.Xld hil, X_lenS, h0', show decide (((0 : Nat) : Int) = 0) = true from rfl, e9]
      exact ⟨⟨C, i + 1, sr, rfl, by omega, by rw [zi], rfl, by rw [pi]; exact or⟩, by omega⟩
    have h0' : hs[i].n = len := by rw [← hx]; exact (hLj i hil).resolve_left h0
    rw [if_neg h0] at zi pi
    simp (maxSteps := 1000000) (disch := omega) only [ES, List.mem_cons, List.not_mem_nil, implies_true, forall_const, WS, List.getElem_cons_zero, List.getElem_cons_succ, Option.isNone_some, Option.isNone_none, List.getD_cons_zero, List.getD_cons_succ, I.at, atL, atO, atP, evp, evs, retV, ↓reduceIte, Nat.reduceEqDiff, reduceCtorEq, AS, t1, t3, t4, t8, t6, t7, hsl.Eix hil2, hsl.Eld hil2, hsl.Eix0 hn0, hsl.Eld hn0, cell_hd, E_lenS, e0, ei, ne_eq, not_true_eq_false, decide_false, el0, hrb7.Xld (show 3 < _ by simp), h7.Xix hil, h7.Xld hil, X_lenS, h0']
    refine WP_dops ?_
    have bd := bel_drew w7.drew
    have C := C.trans (bd.mono C.size)
    have or := or.up bd
    clear bd hsl hS7 h7 hrb7
    have hS7 := hS5.up (frmB w3) C
    have hsl := hS7.top.sl
    have h7 := h5.up C
    have hrb7 := hrb5.up C
    simp (maxSteps := 1000000) (disch := omega) only [ES, List.mem_cons, List.not_mem_nil, implies_true, forall_const, WS, List.getElem_cons_zero, List.getElem_cons_succ, Option.isNone_some, Option.isNone_none, List.getD_cons_zero, List.getD_cons_succ, I.at, atL, atO, atP, evp, evs, retV, ↓reduceIte, Nat.reduceEqDiff, reduceCtorEq, AS, t1, t3, t4, t8, t6, t7, hsl.Eix hil2, hsl.Eld hil2, cell_hd, E_lenS, ei, ne_eq, not_true_eq_false, decide_false, hrb7.Eld (show 3 < _ by simp), h7.Eix hil, h7.Eld hil, h0']
    refine WP_dops ?_
    have bd := bel_drew w7.drew.drew
    have C := C.trans (bd.mono C.size)
    have or := or.up bd
    clear bd hsl hS7 h7 hrb7
    have hS7 := hS5.up (frmB w3) C
    have hsl := hS7.top.sl
    have h7 := h5.up C
    have hrb7 := hrb5.up C
    have ri := (hr5 i hil).up C
    have si := hS7.sl hil2
    have lri := hlr i hil
    have hli := hl2 i hil
    simp (maxSteps := 1000000) (disch := omega) only [ES, List.mem_cons, List.not_mem_nil, implies_true, forall_const, WS, List.getElem_cons_zero, List.getElem_cons_succ, Option.isNone_some, Option.isNone_none, List.getD_cons_zero, List.getD_cons_succ, I.at, atL, atO, atP, evp, evs, retV, ↓reduceIte, Nat.reduceEqDiff, reduceCtorEq, AS, t1, t3, t4, t8, t6, t7, hsl.Eix hil2, hsl.Eld hil2, hrb7.Eld (show 3 < _ by simp), h7.Eix hil, h7.Eld hil]
    refine E_call0 ((culletlaw19_sameBytes_spec w7.drew.drew.drew _ _ _ _ ri si (by omega) (by rw [rowS_len]; omega)).mono ?_)
    rintro _ w8 ⟨rfl, hk⟩
    have C := C.trans (hk.1.mono C.size)
    have or := or.up hk.1
    clear hk
    by_cases he : R i = rowS f K G len i
    · simp (maxSteps := 1000000) (disch := omega) only [ES, List.mem_cons, List.not_mem_nil, implies_true, forall_const, WS, List.getElem_cons_zero, List.getElem_cons_succ, Option.isNone_some, Option.isNone_none, List.getD_cons_zero, List.getD_cons_succ, I.at, atL, atO, atP, evp, evs, retV, ↓reduceIte, Nat.reduceEqDiff, reduceCtorEq, AS, decide_eq_true he, t1, t3, t4, t8, t6, t7]
      refine ⟨⟨C, i + 1, sr, rfl, by omega, by rw [zi], rfl, ?_⟩, by omega⟩
      rw [pi, List.filter_append]
      simp only [List.filter_cons, List.filter_nil, he, decide_true, Bool.not_true, Bool.false_eq_true, if_false, List.append_nil]
      exact or
    · have hpl : (((prsL (hln hs) i).filter fun s => !decide (R s = rowS f K G len s)).map fun (j : Nat) => (j : Int)).length ≤ i := by
        rw [List.length_map]
        have := List.length_filter_le (fun s => !decide (R s = rowS f K G len s)) (prsL (hln hs) i)
        have := prsL_len (hln hs) i
        omega
      simp (maxSteps := 1000000) (disch := omega) only [ES, List.mem_cons, List.not_mem_nil, implies_true, forall_const, WS, List.getElem_cons_zero, List.getElem_cons_succ, Option.isNone_some, Option.isNone_none, List.getD_cons_zero, List.getD_cons_succ, I.at, atL, atO, atP, evp, evs, retV, ↓reduceIte, Nat.reduceEqDiff, reduceCtorEq, AS, decide_eq_false he, t1, t3, t4, t8, t6, t7]
      refine X_bsl (zs := [(i : Int)]) (by rfl) (by rfl) fun e1 w9 oe hB => ?_
      have C := C.trans (hB.mono C.size)
      have or := or.up hB
      clear hB
      simp (maxSteps := 1000000) (disch := omega) only [WS, List.getElem_cons_zero, List.getElem_cons_succ, Option.isNone_some, Option.isNone_none, List.getD_cons_zero, List.getD_cons_succ, I.at, atL, atO, atP, evp, evs, retV, ↓reduceIte, Nat.reduceEqDiff, reduceCtorEq, AS, t1, t3, t4, t8, t6, t7]
      refine Ow.Xapp or oe.sl C.size (by simp only [List.length_singleton, maxBytes]; omega) (by simp only [List.length_singleton]; omega) fun e2 w10 or2 hg _ => ?_
      have C := Below.app C C.size hg fun b hb => (or.blk b hb).1
      simp (maxSteps := 1000000) (disch := omega) only [WS, List.getElem_cons_zero, List.getElem_cons_succ, Option.isNone_some, Option.isNone_none, List.getD_cons_zero, List.getD_cons_succ, I.at, atL, atO, atP, evp, evs, retV, ↓reduceIte, Nat.reduceEqDiff, reduceCtorEq, AS, t1, t3, t4, t8, t6]
      refine ⟨⟨C, i + 1, e2, rfl, by omega, by rw [zi], rfl, ?_⟩, by omega⟩
      rw [pi, List.filter_append, List.map_append]
      simp only [List.filter_cons, List.filter_nil, he, decide_false, Bool.not_false, if_true, List.map_cons, List.map_nil]
      exact or2
  obtain rfl : i = hs.length := by omega
  have or := or.sl
  have ow := ow.up C
  have hrb7 := hrb5.up C
  have B := B.trans (C.mono B.size)
  have hpl : (((prsL (hln hs) hs.length).filter fun s => !decide (R s = rowS f K G len s)).map fun (j : Nat) => (j : Int)).length ≤ hs.length := by
    rw [List.length_map]
    have := List.length_filter_le (fun s => !decide (R s = rowS f K G len s)) (prsL (hln hs) hs.length)
    omega
  simp (maxSteps := 1000000) (disch := omega) only [WS, List.getElem_cons_zero, List.getElem_cons_succ, Option.isNone_some, Option.isNone_none, List.getD_cons_zero, List.getD_cons_succ, I.at, atL, atO, atP, evp, evs, retV, ↓reduceIte, Nat.reduceEqDiff, reduceCtorEq, AS, t1, t3, t4, t8, t6, t7, hsl.Xlen, hl0]
  refine X_call0 ((culletlaw19_sameInts_spec w7 sw sr _ _ ow or (by omega) (by omega)).mono ?_)
  rintro _ w8 ⟨rfl, hk⟩
  have C := C.trans (hk.1.mono C.size)
  have B := B.trans (hk.1.mono B.size)
  clear hk hrb7 hsl hS7 or ow
  have hrb7 := hrb5.up C
  simp (maxSteps := 1000000) (disch := omega) only [WS, List.getElem_cons_zero, List.getElem_cons_succ, Option.isNone_some, Option.isNone_none, List.getD_cons_zero, List.getD_cons_succ, I.at, atL, atO, atP, evp, evs, retV, ↓reduceIte, Nat.reduceEqDiff, reduceCtorEq, AS, decide_eq_true rfl, t1, t3, t6, hrb7.Xld (show 2 < _ by simp)]
  refine loop_of (fun t w' => t 1 = .pointer (some ⟨b, 0, none⟩) ∧ t 3 = sv ∧ t 6 = .int .i64 ((zis (hln hs) hs.length).length : Int) ∧ RowKit.Below w8.heap.size w8 w' ∧ ∃ i : Nat, t 9 = .int .i64 (i : Int) ∧ i ≤ len) (fun t _ => len - (toI (t 9)).toNat)
    ⟨by simp only [WS, List.getElem_cons_zero, List.getElem_cons_succ, Option.isNone_some, Option.isNone_none, List.getD_cons_zero, List.getD_cons_succ, I.at, atL, atO, atP, evp, evs, retV, ↓reduceIte, Nat.reduceEqDiff, reduceCtorEq]; exact t1, by simp only [WS, List.getElem_cons_zero, List.getElem_cons_succ, Option.isNone_some, Option.isNone_none, List.getD_cons_zero, List.getD_cons_succ, I.at, atL, atO, atP, evp, evs, retV, ↓reduceIte, Nat.reduceEqDiff, reduceCtorEq]; exact t3, by simp only [WS, List.getElem_cons_zero, List.getElem_cons_succ, Option.isNone_some, Option.isNone_none, List.getD_cons_zero, List.getD_cons_succ, I.at, atL, atO, atP, evp, evs, retV, ↓reduceIte, Nat.reduceEqDiff, reduceCtorEq]; exact t6, RowKit.Below.refl _ _, 0, by simp only [WS, List.getElem_cons_zero, List.getElem_cons_succ, Option.isNone_some, Option.isNone_none, List.getD_cons_zero, List.getD_cons_succ, I.at, atL, atO, atP, evp, evs, retV, ↓reduceIte, Nat.reduceEqDiff, reduceCtorEq]; rfl, by omega⟩ ?_
  clear t1 t3 t4 t6 t7 t8
  rintro t w9 ⟨t1, t3, t6, D, x, t9, hx⟩
  have C9 := C.trans (D.mono C.size)
  have hS9 := hS5.up (frmB w3) C9
  have hsl := hS9.top.sl
  have e0 := hln2 0 hn0
  by_cases hxl : x < len
  rotate_left
  · obtain rfl : x = len := by omega
    simp (maxSteps := 1000000) (disch := omega) only [WS, List.getElem_cons_zero, List.getElem_cons_succ, Option.isNone_some, Option.isNone_none, List.getD_cons_zero, List.getD_cons_succ, I.at, atL, atO, atP, evp, evs, retV, ↓reduceIte, Nat.reduceEqDiff, reduceCtorEq, AS, t1, t3, t6, t9, hsl.Xix0 hn0, hsl.Xld hn0, cell_hd, X_lenS, e0]
    exact B.trans (D.mono B.size)
  simp (maxSteps := 1000000) (disch := omega) only [WS, List.getElem_cons_zero, List.getElem_cons_succ, Option.isNone_some, Option.isNone_none, List.getD_cons_zero, List.getD_cons_succ, I.at, atL, atO, atP, evp, evs, retV, ↓reduceIte, Nat.reduceEqDiff, reduceCtorEq, AS, t1, t3, t6, t9, hsl.Xix0 hn0, hsl.Xld hn0, cell_hd, X_lenS, e0, hsl.Xlen, hl0]
  refine X_mks (x := (0 : El 8)) (n := hs.length) (by simp only [maxBytes]; omega) (by omega) fun sc w10 oc hB => ?_
  simp (maxSteps := 1000000) (disch := omega) only [WS, List.getElem_cons_zero, List.getElem_cons_succ, Option.isNone_some, Option.isNone_none, List.getD_cons_zero, List.getD_cons_succ, I.at, atL, atO, atP, evp, evs, retV, ↓reduceIte, Nat.reduceEqDiff, reduceCtorEq, AS, t1, t3, t6, t9]
  refine loop_of (fun t w' => t 1 = .pointer (some ⟨b, 0, none⟩) ∧ t 3 = sv ∧ t 6 = .int .i64 ((zis (hln hs) hs.length).length : Int) ∧ t 9 = .int .i64 (x : Int) ∧ t 10 = sc ∧ RowKit.Below w9.heap.size w9 w' ∧ ∃ (i : Nat) (cL : List (El 8)), t 12 = .int .i64 (i : Int) ∧ i ≤ hs.length ∧ cL.length = hs.length ∧ (∀ j, j < i → nth cL j = valS f K (G x) j) ∧ t 11 = .int .i64 (((prsL (hln hs) i).filter fun s => !decide (nth (R s) x = valS f K (G x) s)).length : Int) ∧ Ow w9.heap.size w' sc cL) (fun t _ => hs.length - (toI (t 12)).toNat)
    ⟨by simp only [WS, List.getElem_cons_zero, List.getElem_cons_succ, Option.isNone_some, Option.isNone_none, List.getD_cons_zero, List.getD_cons_succ, I.at, atL, atO, atP, evp, evs, retV, ↓reduceIte, Nat.reduceEqDiff, reduceCtorEq]; exact t1, by simp only [WS, List.getElem_cons_zero, List.getElem_cons_succ, Option.isNone_some, Option.isNone_none, List.getD_cons_zero, List.getD_cons_succ, I.at, atL, atO, atP, evp, evs, retV, ↓reduceIte, Nat.reduceEqDiff, reduceCtorEq]; exact t3, by simp only [WS, List.getElem_cons_zero, List.getElem_cons_succ, Option.isNone_some, Option.isNone_none, List.getD_cons_zero, List.getD_cons_succ, I.at, atL, atO, atP, evp, evs, retV, ↓reduceIte, Nat.reduceEqDiff, reduceCtorEq]; exact t6, by simp only [WS, List.getElem_cons_zero, List.getElem_cons_succ, Option.isNone_some, Option.isNone_none, List.getD_cons_zero, List.getD_cons_succ, I.at, atL, atO, atP, evp, evs, retV, ↓reduceIte, Nat.reduceEqDiff, reduceCtorEq]; exact t9, by simp only [WS, List.getElem_cons_zero, List.getElem_cons_succ, Option.isNone_some, Option.isNone_none, List.getD_cons_zero, List.getD_cons_succ, I.at, atL, atO, atP, evp, evs, retV, ↓reduceIte, Nat.reduceEqDiff, reduceCtorEq], hB, 0, _, by simp only [WS, List.getElem_cons_zero, List.getElem_cons_succ, Option.isNone_some, Option.isNone_none, List.getD_cons_zero, List.getD_cons_succ, I.at, atL, atO, atP, evp, evs, retV, ↓reduceIte, Nat.reduceEqDiff, reduceCtorEq]; rfl, by omega, List.length_replicate .., fun j hj => absurd hj (Nat.not_lt_zero _), by simp only [WS, List.getElem_cons_zero, List.getElem_cons_succ, Option.isNone_some, Option.isNone_none, List.getD_cons_zero, List.getD_cons_succ, I.at, atL, atO, atP, evp, evs, retV, ↓reduceIte, Nat.reduceEqDiff, reduceCtorEq]; rfl, oc⟩ ?_
  clear t1 t3 t6 t9 hB oc hsl hS9 C9
  rintro t w11 ⟨t1, t3, t6, t9, t10, E2, i, cL, t12, hi, lcL, hcL, t11, oc⟩
  have C9 := C.trans ((D.trans (E2.mono D.size)).mono C.size)
  have hS9 := hS5.up (frmB w3) C9
  have hsl := hS9.top.sl
  by_cases hil : i < hs.length
  · have hil2 : i < hs2.length := by omega
    have si := hS9.sl hil2
    have ix : x < (rowS f K G len i).length := by rw [rowS_len]; exact hxl
    have eV : (rowS f K G len i)[x] = valS f K (G x) i := rowS_get ix
    have ic : i < cL.length := by omega
    have pi := prsL_succ (hln hs) i
    have hx9 := hln_get hs hil
    have hpl : ((prsL (hln hs) i).filter fun s => !decide (nth (R s) x = valS f K (G x) s)).length ≤ i := by
      have := List.length_filter_le (fun s => !decide (nth (R s) x = valS f K (G x) s)) (prsL (hln hs) i)
      have := prsL_len (hln hs) i
      omega
    simp (maxSteps := 1000000) (disch := omega) only [WS, List.getElem_cons_zero, List.getElem_cons_succ, Option.isNone_some, Option.isNone_none, List.getD_cons_zero, List.getD_cons_succ, I.at, atL, atO, atP, evp, evs, retV, ↓reduceIte, Nat.reduceEqDiff, reduceCtorEq, AS, t1, t3, t6, t9, t10, t12, t11, hsl.Xlen, hl0, hsl.Xix hil2, hsl.Xld hil2, si.Xix ix, si.Xld ix, cell_e8, eV, oc.sl.Xix ic]
    refine Ow.Xst oc ic (valS f K (G x) i) fun w12 oc2 hg => ?_
    have E2 := Below.app E2 E2.size hg fun b hb => (oc.blk b hb).1
    clear hg si hsl hS9 C9
    simp (maxSteps := 1000000) (disch := omega) only [WS, List.getElem_cons_zero, List.getElem_cons_succ, Option.isNone_some, Option.isNone_none, List.getD_cons_zero, List.getD_cons_succ, I.at, atL, atO, atP, evp, evs, retV, ↓reduceIte, Nat.reduceEqDiff, reduceCtorEq, AS, t1, t3, t6, t9, t10, t12, t11]
    refine WP_dops ?_
    have bd := bel_drew w12
    have E2 := E2.trans (bd.mono E2.size)
    have oc2 := oc2.up bd
    clear bd
    have C9 := C.trans ((D.trans (E2.mono D.size)).mono C.size)
    have h9 := h5.up C9
    have hrb9 := hrb5.up C9
    have hcL' : ∀ j, j < i + 1 → nth (cL.set i (valS f K (G x) i)) j = valS f K (G x) j := fun j hj => by
      rw [nth_set ic]
      split
      · rename_i e; rw [e]
      · exact hcL j (by omega)
    by_cases h0 : hln hs i = 0
    · have h0' : hs[i].n = 0 := by rw [← hx9]; exact h0
      rw [if_pos h0] at pi
      simp (maxSteps := 1000000) (disch := omega) only [ES, List.mem_cons, List.not_mem_nil, implies_true, forall_const, WS, List.getElem_cons_zero, List.getElem_cons_succ, Option.isNone_some, Option.isNone_none, List.getD_cons_zero, List.getD_cons_succ, I.at, atL, atO, atP, evp, evs, retV, ↓reduceIte, Nat.reduceEqDiff, reduceCtorEq, AS, t1, t3, t6, t9, t10, t12, t11, hrb9.Eld (show 3 < _ by simp), h9.Eix hil, h9.Eld hil, cell_hd, E_lenS, h0', show decide (((0 : Nat) : Int) > 0) = false from rfl]
      exact ⟨⟨E2, i + 1, _, rfl, by omega, by rw [List.length_set]; exact lcL, hcL', by rw [pi], oc2⟩, by omega⟩
    have hn' : hln hs i = len := (hLj i hil).resolve_left h0
    have h0' : hs[i].n = len := by rw [← hx9]; exact hn'
    rw [if_neg h0] at pi
    have ri := (hr5 i hil).up C9
    have iR : x < (R i).length := by rw [← hlr i hil]; omega
    have ic' : i < (cL.set i (valS f K (G x) i)).length := by rw [List.length_set]; exact ic
    have ec' : (cL.set i (valS f K (G x) i))[i] = valS f K (G x) i := List.getElem_set_self ..
    have eR : (R i)[x] = nth (R i) x := (nth_get iR).symm
    have hRl : (R i).length = len := by rw [← hlr i hil]; exact hn'
    have hlp : ((len : Nat) : Int) > 0 := by omega
    by_cases heq : nth (R i) x = valS f K (G x) i
    · rw [heq] at eR
      simp (maxSteps := 1000000) (disch := omega) only [ES, List.mem_cons, List.not_mem_nil, implies_true, forall_const, WS, List.getElem_cons_zero, List.getElem_cons_succ, Option.isNone_some, Option.isNone_none, List.getD_cons_zero, List.getD_cons_succ, I.at, atL, atO, atP, evp, evs, retV, ↓reduceIte, Nat.reduceEqDiff, reduceCtorEq, AS, t1, t3, t6, t9, t10, t12, t11, hrb9.Eld (show 3 < _ by simp), h9.Eix hil, h9.Eld hil, ri.Elen, hRl, hlp, ri.Eix iR, ri.Eld iR, cell_e8, eR, oc2.sl.Eix ic', oc2.sl.Eld ic', ec', ne_eq, not_true_eq_false, decide_false]
      refine ⟨⟨E2, i + 1, _, rfl, by omega, by rw [List.length_set]; exact lcL, hcL', ?_, oc2⟩, by omega⟩
      rw [pi, List.filter_append]
      simp only [List.filter_cons, List.filter_nil, heq, decide_true, Bool.not_true, Bool.false_eq_true, if_false, List.append_nil]
    · have hne : ((nth (R i) x).v.toNat : Int) ≠ ((valS f K (G x) i).v.toNat : Int) := fun e => heq (El.ext (BitVec.eq_of_toNat_eq (by omega)))
      simp (maxSteps := 1000000) (disch := omega) only [ES, List.mem_cons, List.not_mem_nil, implies_true, forall_const, WS, List.getElem_cons_zero, List.getElem_cons_succ, Option.isNone_some, Option.isNone_none, List.getD_cons_zero, List.getD_cons_succ, I.at, atL, atO, atP, evp, evs, retV, ↓reduceIte, Nat.reduceEqDiff, reduceCtorEq, AS, t1, t3, t6, t9, t10, t12, t11, hrb9.Eld (show 3 < _ by simp), h9.Eix hil, h9.Eld hil, ri.Elen, hRl, hlp, ri.Eix iR, ri.Eld iR, cell_e8, eR, oc2.sl.Eix ic', oc2.sl.Eld ic', ec', decide_eq_true hne]
      refine ⟨⟨E2, i + 1, _, rfl, by omega, by rw [List.length_set]; exact lcL, hcL', ?_, oc2⟩, by omega⟩
      rw [pi, List.filter_append, List.length_append]
      simp only [List.filter_cons, List.filter_nil, heq, decide_false, Bool.not_false, if_true, List.length_singleton]
  obtain rfl : i = hs.length := by omega
  have hrb9 := hrb5.up C9
  have hcnt := offS_len (f := f) (K := K) (L := hln hs) (n := hs.length) (R := R) (t := x) (g := G x) (by omega) (by omega)
  have hnr := (hE x hxl).2.2
  rw [hcnt] at hnr
  obtain ⟨q, hq⟩ : ∃ q, q = ((prsL (hln hs) hs.length).filter fun s => !decide (nth (R s) x = valS f K (G x) s)).length := ⟨_, rfl⟩
  rw [← hq] at hnr t11
  have e2q : IntKind.i64.wrap (2 * (q : Int)) = 2 * (q : Int) := wrap_id (by omega) (by omega)
  have eMz : IntKind.i64.wrap ((M : Int) - ((zis (hln hs) hs.length).length : Int)) = (M : Int) - ((zis (hln hs) hs.length).length : Int) := wrap_id (by omega) (by omega)
  have hgt : ¬ 2 * (q : Int) > (M : Int) - ((zis (hln hs) hs.length).length : Int) := by omega
  simp (maxSteps := 1000000) (disch := omega) only [WS, List.getElem_cons_zero, List.getElem_cons_succ, Option.isNone_some, Option.isNone_none, List.getD_cons_zero, List.getD_cons_succ, I.at, atL, atO, atP, evp, evs, retV, ↓reduceIte, Nat.reduceEqDiff, reduceCtorEq, AS, t1, t3, t6, t9, t10, t12, t11, hsl.Xlen, hl0, hrb9.Xld (show 2 < _ by simp), e2q, eMz, decide_eq_false hgt, hrb9.Xld (show 0 < _ by simp), hrb9.Xld (show 1 < _ by simp)]
  refine X_call0 ((culletlaw19_isColumn_spec w11 f K M sc cL oc.sl (by omega) (by omega) (isCol_congr (by omega) (isCol_val hM.hf (n := K + M) (by omega) (by omega) (hE x hxl).2.1) fun j hj => hcL j (by omega))).mono ?_)
  rintro _ w12 ⟨rfl, rfl⟩
  simp (maxSteps := 1000000) (disch := omega) only [WS, List.getElem_cons_zero, List.getElem_cons_succ, Option.isNone_some, Option.isNone_none, List.getD_cons_zero, List.getD_cons_succ, I.at, atL, atO, atP, evp, evs, retV, ↓reduceIte, Nat.reduceEqDiff, reduceCtorEq, AS, t1, t3, t6, t9]
  exact ⟨⟨D.trans (E2.mono D.size), x + 1, rfl, by omega⟩, by omega⟩
end Go.Proofs.Ytbaljbadlfopgaa.Fw
