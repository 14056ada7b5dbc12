import Derived.Test.YtbaljbadlfopgaaProg
import Derived.Test.YtbaljbadlfopgaaFwTF
import Derived.Test.YtbaljbadlfopgaaSMtF
import Derived.Test.YtbaljbadlfopgaaGfLF
import Derived.Test.YtbaljbadlfopgaaGfPF
set_option linter.all false
set_option linter.unusedVariables false
set_option linter.unusedSimpArgs false
set_option maxRecDepth 100000
set_option maxHeartbeats 1000000
namespace Go.Proofs.Ytbaljbadlfopgaa.Fw
open Go Go.Fw Go.Proofs
attribute [local irreducible] stepI
def c_gener_Words : C := .seq (.ops [⟨0, (some 6), none, .mov (.c (.slice none 0 0)), []⟩, ⟨1, (some 7), none, .mov (.c (.int .i64 0)), []⟩]) (.seq (.seq (.ops [⟨0, (some 19), none, .mov (.t 0), []⟩, ⟨1, (some 20), none, .bin .lss (.t 19) (.c (.int .i64 1)), []⟩, ⟨2, (some 21), none, .mov (.t 20), []⟩, ⟨3, (some 22), (some (21, false)), .mov (.t 1), []⟩, ⟨4, (some 23), (some (21, false)), .bin .lss (.t 22) (.c (.int .i64 1)), []⟩, ⟨5, (some 24), none, .pick (.t 21) (.c (.bool true)) (.t 23), []⟩, ⟨6, (some 25), none, .mov (.t 24), []⟩, ⟨7, (some 26), (some (25, false)), .mov (.t 0), []⟩, ⟨8, (some 27), (some (25, false)), .bin .gtr (.t 26) (.c (.int .i64 65536)), []⟩, ⟨9, (some 28), none, .pick (.t 25) (.c (.bool true)) (.t 27), []⟩, ⟨10, (some 29), none, .mov (.t 28), []⟩, ⟨11, (some 30), (some (29, false)), .mov (.t 1), []⟩, ⟨12, (some 31), (some (29, false)), .bin .gtr (.t 30) (.c (.int .i64 65536)), []⟩, ⟨13, (some 32), none, .pick (.t 29) (.c (.bool true)) (.t 31), []⟩]) (.ite (.t 32) (.seq (.ops [⟨0, (some 6), none, .mov (.c (.slice none 0 0)), []⟩, ⟨1, (some 7), none, .mov (.c (.int .i64 4)), []⟩]) .ret) .skip)) (.seq (.ops [⟨0, (some 33), none, .mov (.t 1), []⟩, ⟨1, (some 34), none, .bin .sub (.t 33) (.c (.int .i64 1)), []⟩, ⟨2, (some 35), none, .cnv .u64 (.t 34), []⟩, ⟨3, (some 36), none, .call (.c (.func (.func 65) #[] #[])) [.t 35], []⟩, ⟨4, (some 8), none, .mov (.t 36), []⟩]) (.seq (.ops [⟨0, (some 37), none, .mov (.t 8), []⟩, ⟨1, (some 38), none, .bin .shl (.c (.int .i64 1)) (.t 37), []⟩, ⟨2, (some 9), none, .mov (.t 38), []⟩]) (.seq (.seq (.ops [⟨0, (some 39), none, .mov (.t 9), []⟩, ⟨1, (some 40), none, .mov (.t 0), []⟩, ⟨2, (some 41), none, .bin .add (.t 39) (.t 40), []⟩, ⟨3, (some 42), none, .bin .gtr (.t 41) (.c (.int .i64 65536)), []⟩]) (.ite (.t 42) (.seq (.ops [⟨0, (some 6), none, .mov (.c (.slice none 0 0)), []⟩, ⟨1, (some 7), none, .mov (.c (.int .i64 4)), []⟩]) .ret) .skip)) (.seq (.seq (.ops [⟨0, (some 43), none, .mov (.t 2), []⟩, ⟨1, (some 44), none, .bin .lss (.t 43) (.c (.int .i64 0)), []⟩, ⟨2, (some 45), none, .mov (.t 44), []⟩, ⟨3, (some 46), (some (45, false)), .mov (.t 2), []⟩, ⟨4, (some 47), (some (45, false)), .mov (.t 1), []⟩, ⟨5, (some 48), (some (45, false)), .bin .geq (.t 46) (.t 47), []⟩, ⟨6, (some 49), none, .pick (.t 45) (.c (.bool true)) (.t 48), []⟩]) (.ite (.t 49) (.seq (.ops [⟨0, (some 6), none, .mov (.c (.slice none 0 0)), []⟩, ⟨1, (some 7), none, .mov (.c (.int .i64 7)), []⟩]) .ret) .skip)) (.seq (.ops [⟨0, (some 10), none, .mov (.c (.func (.func 66) #[] #[])), []⟩]) (.seq (.seq (.ops [⟨0, (some 50), none, .mov (.t 0), []⟩, ⟨1, (some 51), none, .bin .gtr (.t 50) (.c (.int .i64 256)), []⟩]) (.ite (.t 51) (.ops [⟨0, (some 52), none, .call (.c (.func (.func 67) #[] #[])) [], []⟩, ⟨1, (some 53), none, .mkf 68 [.t 52] [], []⟩, ⟨2, (some 10), none, .mov (.t 53), []⟩]) .skip)) (.seq (.ops [⟨0, (some 55), none, .mov (.t 2), []⟩, ⟨1, (some 56), none, .call (.c (.func (.func 35) #[] #[])) [.t 55], []⟩, ⟨2, (some 54), none, .mov (.t 56), []⟩, ⟨3, (some 57), none, .ext (.t 54) 0, []⟩, ⟨4, (some 58), none, .ext (.t 54) 1, []⟩, ⟨5, (some 11), none, .mov (.t 57), []⟩, ⟨6, (some 12), none, .mov (.t 58), []⟩]) (.seq (.seq (.ops [⟨0, (some 59), none, .mov (.t 12), []⟩, ⟨1, (some 60), none, .bin .neq (.t 59) (.c (.int .i64 0)), []⟩]) (.ite (.t 60) (.seq (.ops [⟨0, (some 61), none, .mov (.t 12), []⟩, ⟨1, (some 6), none, .mov (.c (.slice none 0 0)), []⟩, ⟨2, (some 7), none, .mov (.t 61), []⟩]) .ret) .skip)) (.seq (.ops [⟨0, (some 62), none, .mov (.t 0), []⟩, ⟨1, (some 63), none, .mks 73 2 [.int .u16 0] (.t 62) (.t 62), []⟩, ⟨2, (some 13), none, .mov (.t 63), []⟩]) (.seq (.seq (.ops [⟨0, (some 64), none, .mov (.t 13), []⟩, ⟨1, (some 65), none, .len (.t 64), []⟩, ⟨2, (some 66), none, .mov (.c (.int .i64 0)), []⟩]) (.block 0 (.loop (.seq (.ops [⟨0, (some 67), none, .bin .lss (.t 66) (.t 65), []⟩]) (.seq (.ite (.t 67) .skip (.exit 0)) (.seq (.block 1 (.seq (.ops [⟨0, (some 68), none, .mov (.t 66), []⟩, ⟨1, (some 14), none, .mov (.t 68), []⟩]) (.seq (.ops [⟨0, (some 70), none, .mov (.t 9), []⟩, ⟨1, (some 71), none, .mov (.t 14), []⟩, ⟨2, (some 72), none, .bin .add (.t 70) (.t 71), []⟩, ⟨3, (some 73), none, .mov (.t 8), []⟩, ⟨4, (some 74), none, .bin .shr (.t 72) (.t 73), []⟩, ⟨5, (some 75), none, .call (.c (.func (.func 35) #[] #[])) [.t 74], []⟩, ⟨6, (some 69), none, .mov (.t 75), []⟩, ⟨7, (some 76), none, .ext (.t 69) 0, []⟩, ⟨8, (some 77), none, .ext (.t 69) 1, []⟩, ⟨9, (some 15), none, .mov (.t 76), []⟩, ⟨10, (some 16), none, .mov (.t 77), []⟩]) (.seq (.ops [⟨0, (some 79), none, .mov (.t 9), []⟩, ⟨1, (some 80), none, .mov (.t 14), []⟩, ⟨2, (some 81), none, .bin .add (.t 79) (.t 80), []⟩, ⟨3, (some 82), none, .call (.c (.func (.func 35) #[] #[])) [.t 81], []⟩, ⟨4, (some 78), none, .mov (.t 82), []⟩, ⟨5, (some 83), none, .ext (.t 78) 0, []⟩, ⟨6, (some 84), none, .ext (.t 78) 1, []⟩, ⟨7, (some 17), none, .mov (.t 83), []⟩, ⟨8, (some 18), none, .mov (.t 84), []⟩]) (.seq (.ops [⟨0, (some 86), none, .mov (.t 13), []⟩, ⟨1, (some 87), none, .mov (.t 14), []⟩, ⟨2, (some 88), none, .mov (.t 10), []⟩, ⟨3, (some 89), none, .mov (.t 15), []⟩, ⟨4, (some 90), none, .mov (.t 11), []⟩, ⟨5, (some 91), none, .mov (.t 17), []⟩, ⟨6, (some 92), none, .bin .xor (.t 90) (.t 91), []⟩, ⟨7, (some 93), none, .call (.t 88) [.t 89, .t 92], []⟩, ⟨8, (some 85), none, .mov (.t 93), []⟩, ⟨9, (some 94), none, .ext (.t 85) 0, []⟩, ⟨10, (some 95), none, .ext (.t 85) 1, []⟩, ⟨11, (some 96), none, .ixs 1 (.t 86) (.t 87), []⟩, ⟨12, none, none, .st (.t 96) (.t 94), []⟩, ⟨13, (some 12), none, .mov (.t 95), []⟩]) (.seq (.ops [⟨0, (some 97), none, .mov (.t 12), []⟩, ⟨1, (some 98), none, .bin .neq (.t 97) (.c (.int .i64 0)), []⟩]) (.ite (.t 98) (.seq (.ops [⟨0, (some 99), none, .mov (.t 12), []⟩, ⟨1, (some 6), none, .mov (.c (.slice none 0 0)), []⟩, ⟨2, (some 7), none, .mov (.t 99), []⟩]) .ret) .skip))))))) (.ops [⟨0, (some 100), none, .bin .add (.t 66) (.c (.int .i64 1)), []⟩, ⟨1, (some 66), none, .mov (.t 100), []⟩]))))))) (.seq (.ops [⟨0, (some 101), none, .mov (.t 13), []⟩, ⟨1, (some 6), none, .mov (.t 101), []⟩, ⟨2, (some 7), none, .mov (.c (.int .i64 0)), []⟩]) .ret))))))))))))
attribute [irreducible] c_gener_Words
theorem run_gener_Words {args : List Value} {w : World} {K : Value → World → Prop} (hn : args.length ≤ 102) (h : WP Try.prog c_gener_Words (endQ [.t 6, .t 7] K) (initT args) w) : CallV Try.prog 34 args w K :=
  call_of follows Try.func34 (by kernel_rfl) (by kernel_rfl) hn h
def c_bits_Len : C := .seq (.ops [⟨0, (some 2), none, .mov (.c (.int .i64 0)), []⟩]) (.seq (.ite (.c (.bool false)) (.seq (.ops [⟨0, (some 3), none, .mov (.t 0), []⟩, ⟨1, (some 4), none, .cnv .u32 (.t 3), []⟩, ⟨2, (some 5), none, .call (.c (.func (.func 104) #[] #[])) [.t 4], []⟩, ⟨3, (some 2), none, .mov (.t 5), []⟩]) .ret) .skip) (.seq (.ops [⟨0, (some 6), none, .mov (.t 0), []⟩, ⟨1, (some 7), none, .call (.c (.func (.func 105) #[] #[])) [.t 6], []⟩, ⟨2, (some 2), none, .mov (.t 7), []⟩]) .ret))
attribute [irreducible] c_bits_Len
theorem run_bits_Len {args : List Value} {w : World} {K : Value → World → Prop} (hn : args.length ≤ 8) (h : WP Try.prog c_bits_Len (endQ [.t 2] K) (initT args) w) : CallV Try.prog 65 args w K :=
  call_of follows Try.func65 (by kernel_rfl) (by kernel_rfl) hn h
def c_gf16_Div : C := .seq (.ops [⟨0, (some 4), none, .mov (.c (.int .u16 0)), []⟩, ⟨1, (some 5), none, .mov (.c (.int .i64 0)), []⟩]) (.seq (.ops [⟨0, (some 9), none, .mov (.t 1), []⟩, ⟨1, (some 10), none, .call (.c (.func (.func 71) #[] #[])) [.t 9], []⟩, ⟨2, (some 8), none, .mov (.t 10), []⟩, ⟨3, (some 11), none, .ext (.t 8) 0, []⟩, ⟨4, (some 12), none, .ext (.t 8) 1, []⟩, ⟨5, (some 6), none, .mov (.t 11), []⟩, ⟨6, (some 7), none, .mov (.t 12), []⟩]) (.seq (.seq (.ops [⟨0, (some 13), none, .mov (.t 7), []⟩, ⟨1, (some 14), none, .bin .neq (.t 13) (.c (.int .i64 0)), []⟩]) (.ite (.t 14) (.seq (.ops [⟨0, (some 15), none, .mov (.t 7), []⟩, ⟨1, (some 4), none, .mov (.c (.int .u16 0)), []⟩, ⟨2, (some 5), none, .mov (.t 15), []⟩]) .ret) .skip)) (.seq (.ops [⟨0, (some 16), none, .mov (.t 0), []⟩, ⟨1, (some 17), none, .mov (.t 6), []⟩, ⟨2, (some 18), none, .call (.c (.func (.func 70) #[] #[])) [.t 16, .t 17], []⟩, ⟨3, (some 4), none, .mov (.t 18), []⟩, ⟨4, (some 5), none, .mov (.c (.int .i64 0)), []⟩]) .ret)))
attribute [irreducible] c_gf16_Div
theorem run_gf16_Div {args : List Value} {w : World} {K : Value → World → Prop} (hn : args.length ≤ 19) (h : WP Try.prog c_gf16_Div (endQ [.t 4, .t 5] K) (initT args) w) : CallV Try.prog 66 args w K :=
  call_of follows Try.func66 (by kernel_rfl) (by kernel_rfl) hn h
end Go.Proofs.Ytbaljbadlfopgaa.Fw
namespace Go.Proofs.Ytbaljbadlfopgaa.Fw
open Go Go.Fw
theorem bits_Len_spec (w : World) (x : Nat) (hx : x < 18446744073709551616) : CallV Try.prog 65 [.int .u64 (x : Int)] w fun v w' => v = .int .i64 (blen x : Int) ∧ w' = w := by
  refine run_bits_Len (by simp) ?_
  simp only [c_bits_Len, WS, List.getElem_cons_zero, List.getElem_cons_succ, Option.isNone_some, Option.isNone_none, List.getD_cons_zero, List.getD_cons_succ, I.at, atL, atO, atP, evp, evs, retV, ↓reduceIte, Nat.reduceEqDiff, reduceCtorEq]
  refine X_call0 ((bits_Len64_spec w x hx).mono ?_)
  rintro _ w' ⟨rfl, rfl⟩
  simp (maxSteps := 1000000) (disch := omega) only [WS, List.getElem_cons_zero, List.getElem_cons_succ, Option.isNone_some, Option.isNone_none, List.getD_cons_zero, List.getD_cons_succ, I.at, atL, atO, atP, evp, evs, retV, ↓reduceIte, Nat.reduceEqDiff, reduceCtorEq, AS]
theorem gf16_Div_spec (w : World) (a b : El 16) (hb : b ≠ 0) : CallV Try.prog 66 [.int .u16 (a.v.toNat : Int), .int .u16 (b.v.toNat : Int)] w fun v w' => v = .tuple #[.int .u16 ((a * b.inv).v.toNat : Int), .int .i64 0] ∧ w' = w := by
  refine run_gf16_Div (by simp) ?_
  simp only [c_gf16_Div, WS, List.getElem_cons_zero, List.getElem_cons_succ, Option.isNone_some, Option.isNone_none, List.getD_cons_zero, List.getD_cons_succ, I.at, atL, atO, atP, evp, evs, retV, ↓reduceIte, Nat.reduceEqDiff, reduceCtorEq]
  refine X_call0 ((gf16_Inv_spec w b hb).mono ?_)
  rintro _ w' ⟨rfl, rfl⟩
  simp (maxSteps := 1000000) (disch := omega) only [WS, List.getElem_cons_zero, List.getElem_cons_succ, Option.isNone_some, Option.isNone_none, List.getD_cons_zero, List.getD_cons_succ, I.at, atL, atO, atP, evp, evs, retV, ↓reduceIte, Nat.reduceEqDiff, reduceCtorEq, AS]
  refine X_call0 ((gf16_Mul_spec w' a b.inv).mono ?_)
  rintro _ w ⟨rfl, rfl⟩
  simp (maxSteps := 1000000) (disch := omega) only [WS, List.getElem_cons_zero, List.getElem_cons_succ, Option.isNone_some, Option.isNone_none, List.getD_cons_zero, List.getD_cons_succ, I.at, atL, atO, atP, evp, evs, retV, ↓reduceIte, Nat.reduceEqDiff, reduceCtorEq, AS]
/-- The factor of the i-th data word in the parity word j, of M = 2^u. -/
def fac (u j i : Nat) : El 16 := wel ((2 ^ u + i) >>> u) * (wel j + wel (2 ^ u + i)).inv
theorem gener_Words_s_spec (w : World) (k m j : Nat) (hk1 : 1 ≤ k) (hk : k ≤ 256) (hm1 : 1 ≤ m) (hm : m ≤ 65536) (hj : j < m) (hN : 2 ^ blen (m - 1) + k ≤ 65536) :
    CallV Try.prog 34 [.int .i64 (k : Int), .int .i64 (m : Int), .int .i64 (j : Int)] w fun v w' => ∃ s row, v = .tuple #[s, .int .i64 0] ∧ Ow w.heap.size w' s row ∧ row.length = k ∧ (∀ i, i < k → (co row).c i = fac (blen (m - 1)) j i) ∧ RowKit.Below w.heap.size w w' := by
  refine run_gener_Words (by simp) ?_
  have hu8 : blen (m - 1) ≤ 16 := blen_lt (by omega)
  have hlt : m - 1 < 2 ^ blen (m - 1) := lt_blen _
  have e0 : IntKind.i64.wrap ((m : Int) - 1) = ((m - 1 : Nat) : Int) := w_subl m 1 hm1 (by omega)
  have e1 : IntKind.u64.wrap ((m - 1 : Nat) : Int) = ((m - 1 : Nat) : Int) := wrap_u64 _ (by omega)
  have hk65 : k ≤ 65536 := by omega
  simp (maxSteps := 1000000) (disch := omega) only [c_gener_Words, WS, List.getElem_cons_zero, List.getElem_cons_succ, Option.isNone_some, Option.isNone_none, List.getD_cons_zero, List.getD_cons_succ, I.at, atL, atO, atP, evp, evs, retV, ↓reduceIte, Nat.reduceEqDiff, reduceCtorEq, decide_eq_true, decide_eq_false, e0, e1]
  refine X_call0 ((bits_Len_spec w (m - 1) (by omega)).mono ?_)
  rintro _ w' ⟨rfl, rfl⟩
  generalize blen (m - 1) = u at *
  have hp := Nat.two_pow_pos u
  have e2 : shlV .i64 1 (u : Int) = ((2 ^ u : Nat) : Int) := by
    have := shl_nat fits_i64 1 u (by show u ≤ 64; omega) (by rw [Nat.one_mul]; exact Nat.pow_lt_pow_right (by omega) (by omega))
    rw [Nat.one_shiftLeft] at this
    exact this
  simp (maxSteps := 1000000) (disch := omega) only [WS, List.getElem_cons_zero, List.getElem_cons_succ, Option.isNone_some, Option.isNone_none, List.getD_cons_zero, List.getD_cons_succ, I.at, atL, atO, atP, evp, evs, retV, ↓reduceIte, Nat.reduceEqDiff, reduceCtorEq, AS, X_shl, Int.natCast_nonneg, e2]
  refine X_call0 ((gf16_Element_spec w' (j : Int)).mono ?_)
  rintro _ w1 ⟨hB, ⟨-, -, rfl⟩ | ⟨hbad, -⟩⟩
  rotate_left
  · exact absurd ⟨by omega, by omega⟩ hbad
  rw [Int.toNat_natCast]
  have B := hB
  clear hB
  simp (maxSteps := 1000000) (disch := omega) only [WS, List.getElem_cons_zero, List.getElem_cons_succ, Option.isNone_some, Option.isNone_none, List.getD_cons_zero, List.getD_cons_succ, I.at, atL, atO, atP, evp, evs, retV, ↓reduceIte, Nat.reduceEqDiff, reduceCtorEq, AS]
  refine X_mks (x := (0 : El 16)) (by simp only [maxBytes]; omega) (by omega) fun sr w2 or0 hB => ?_
  have or1 := or0.mono B.size
  clear or0
  have B := B.trans (hB.mono B.size)
  clear hB
  simp (maxSteps := 1000000) (disch := omega) only [WS, List.getElem_cons_zero, List.getElem_cons_succ, Option.isNone_some, Option.isNone_none, List.getD_cons_zero, List.getD_cons_succ, I.at, atL, atO, atP, evp, evs, retV, ↓reduceIte, Nat.reduceEqDiff, reduceCtorEq, AS, or1.sl.Xlen, List.length_replicate]
  refine loop_of (fun t w2 => t 8 = .int .i64 (u : Int) ∧ t 9 = .int .i64 ((2 ^ u : Nat) : Int) ∧ t 10 = .func (.func 66) #[] #[] ∧ t 54 = .tuple #[.int .u16 ((wel j).v.toNat : Int), .int .i64 0] ∧ t 11 = .int .u16 ((wel j).v.toNat : Int) ∧ t 13 = sr ∧ t 65 = .int .i64 (k : Int) ∧ RowKit.Below w'.heap.size w' w2 ∧ ∃ (i : Nat) (row : List (El 16)), t 66 = .int .i64 (i : Int) ∧ i ≤ k ∧ Ow w'.heap.size w2 sr row ∧ row.length = k ∧ ∀ x, x < i → (co row).c x = fac u j x)
    (fun t _ => k - (toI (t 66)).toNat) ⟨by simp only [WS, List.getElem_cons_zero, List.getElem_cons_succ, Option.isNone_some, Option.isNone_none, List.getD_cons_zero, List.getD_cons_succ, I.at, atL, atO, atP, evp, evs, retV, ↓reduceIte, Nat.reduceEqDiff, reduceCtorEq], by simp only [WS, List.getElem_cons_zero, List.getElem_cons_succ, Option.isNone_some, Option.isNone_none, List.getD_cons_zero, List.getD_cons_succ, I.at, atL, atO, atP, evp, evs, retV, ↓reduceIte, Nat.reduceEqDiff, reduceCtorEq], by simp only [WS, List.getElem_cons_zero, List.getElem_cons_succ, Option.isNone_some, Option.isNone_none, List.getD_cons_zero, List.getD_cons_succ, I.at, atL, atO, atP, evp, evs, retV, ↓reduceIte, Nat.reduceEqDiff, reduceCtorEq], by simp only [WS, List.getElem_cons_zero, List.getElem_cons_succ, Option.isNone_some, Option.isNone_none, List.getD_cons_zero, List.getD_cons_succ, I.at, atL, atO, atP, evp, evs, retV, ↓reduceIte, Nat.reduceEqDiff, reduceCtorEq], by simp only [WS, List.getElem_cons_zero, List.getElem_cons_succ, Option.isNone_some, Option.isNone_none, List.getD_cons_zero, List.getD_cons_succ, I.at, atL, atO, atP, evp, evs, retV, ↓reduceIte, Nat.reduceEqDiff, reduceCtorEq], by simp only [WS, List.getElem_cons_zero, List.getElem_cons_succ, Option.isNone_some, Option.isNone_none, List.getD_cons_zero, List.getD_cons_succ, I.at, atL, atO, atP, evp, evs, retV, ↓reduceIte, Nat.reduceEqDiff, reduceCtorEq], by simp only [WS, List.getElem_cons_zero, List.getElem_cons_succ, Option.isNone_some, Option.isNone_none, List.getD_cons_zero, List.getD_cons_succ, I.at, atL, atO, atP, evp, evs, retV, ↓reduceIte, Nat.reduceEqDiff, reduceCtorEq], B, 0, _, rfl, by omega, or1, by simp, fun x hx => by omega⟩ ?_
  clear B or1
  rintro t w3 ⟨t8, t9, t10, t54, t11, t13, t65, B, i, row, t66, hi, or, hrl, hrc⟩
  by_cases hil : i < k
  · have ir : i < row.length := by omega
    have hs : (2 ^ u + i) >>> u < 65536 := by rw [Nat.shiftRight_eq_div_pow]; exact Nat.lt_of_le_of_lt (Nat.div_le_self _ _) (by omega)
    have hne : wel j + wel (2 ^ u + i) ≠ 0 := wel_ne (by omega) (by omega) (by omega)
    simp (maxSteps := 1000000) (disch := omega) only [WS, List.getElem_cons_zero, List.getElem_cons_succ, Option.isNone_some, Option.isNone_none, List.getD_cons_zero, List.getD_cons_succ, I.at, atL, atO, atP, evp, evs, retV, ↓reduceIte, Nat.reduceEqDiff, reduceCtorEq, AS, t8, t9, t10, t54, t11, t13, t65, t66, X_shr, Int.natCast_nonneg, shr_nat .i64 (2 ^ u + i) u (by show u ≤ 64; omega)]
    refine X_call0 ((gf16_Element_spec w3 (((2 ^ u + i) >>> u : Nat) : Int)).mono ?_)
    rintro _ w4 ⟨hB, ⟨-, -, rfl⟩ | ⟨hbad, -⟩⟩
    rotate_left
    · exact absurd (show 0 ≤ (((2 ^ u + i) >>> u : Nat) : Int) ∧ (((2 ^ u + i) >>> u : Nat) : Int) < 65536 by generalize (2 ^ u + i) >>> u = z at *; omega) hbad
    rw [Int.toNat_natCast]
    have or := or.up hB
    have B := B.trans (hB.mono B.size)
    clear hB
    simp (maxSteps := 1000000) (disch := omega) only [WS, List.getElem_cons_zero, List.getElem_cons_succ, Option.isNone_some, Option.isNone_none, List.getD_cons_zero, List.getD_cons_succ, I.at, atL, atO, atP, evp, evs, retV, ↓reduceIte, Nat.reduceEqDiff, reduceCtorEq, AS, t8, t9, t10, t54, t11, t13, t65, t66]
    refine X_call0 ((gf16_Element_spec w4 ((2 ^ u + i : Nat) : Int)).mono ?_)
    rintro _ w5 ⟨hB, ⟨-, -, rfl⟩ | ⟨hbad, -⟩⟩
    rotate_left
    · exact absurd ⟨by omega, by omega⟩ hbad
    rw [Int.toNat_natCast]
    have or := or.up hB
    have B := B.trans (hB.mono B.size)
    clear hB
    simp (maxSteps := 1000000) (disch := omega) only [WS, List.getElem_cons_zero, List.getElem_cons_succ, Option.isNone_some, Option.isNone_none, List.getD_cons_zero, List.getD_cons_succ, I.at, atL, atO, atP, evp, evs, retV, ↓reduceIte, Nat.reduceEqDiff, reduceCtorEq, AS, t8, t9, t10, t54, t11, t13, t65, t66, xor16]
    refine X_call0 ((gf16_Div_spec w5 (wel ((2 ^ u + i) >>> u)) (wel j + wel (2 ^ u + i)) hne).mono ?_)
    rintro _ w6 ⟨rfl, rfl⟩
    simp (maxSteps := 1000000) (disch := omega) only [WS, List.getElem_cons_zero, List.getElem_cons_succ, Option.isNone_some, Option.isNone_none, List.getD_cons_zero, List.getD_cons_succ, I.at, atL, atO, atP, evp, evs, retV, ↓reduceIte, Nat.reduceEqDiff, reduceCtorEq, AS, t8, t9, t10, t54, t11, t13, t65, t66, or.sl.Xix ir]
    refine Ow.Xst or ir (wel ((2 ^ u + i) >>> u) * (wel j + wel (2 ^ u + i)).inv) fun w7 or2 hg => ?_
    have B := B.grown hg B.size fun b hb => (or.blk b hb).1
    simp (maxSteps := 1000000) (disch := omega) only [WS, List.getElem_cons_zero, List.getElem_cons_succ, Option.isNone_some, Option.isNone_none, List.getD_cons_zero, List.getD_cons_succ, I.at, atL, atO, atP, evp, evs, retV, ↓reduceIte, Nat.reduceEqDiff, reduceCtorEq, AS, t8, t9, t10, t54, t11, t13, t65, t66]
    refine ⟨⟨B, i + 1, _, rfl, by omega, or2, by simp [hrl], fun x hx => ?_⟩, by omega⟩
    rw [co_set _ ir]
    by_cases hxi : x = i
    · subst hxi; rw [if_pos rfl]; rfl
    · rw [if_neg hxi]; exact hrc x (by omega)
  · obtain rfl : i = k := by omega
    simp (maxSteps := 1000000) (disch := omega) only [WS, List.getElem_cons_zero, List.getElem_cons_succ, Option.isNone_some, Option.isNone_none, List.getD_cons_zero, List.getD_cons_succ, I.at, atL, atO, atP, evp, evs, retV, ↓reduceIte, Nat.reduceEqDiff, reduceCtorEq, AS, t8, t9, t10, t54, t11, t13, t65, t66]
    exact ⟨sr, row, rfl, or, hrl, hrc, B⟩
theorem gener_Words_b_spec (w : World) (k m j : Nat) (hk1 : 1 ≤ k) (hk : 256 < k ∧ k ≤ 65536) (hm1 : 1 ≤ m) (hm : m ≤ 65536) (hj : j < m) (hN : 2 ^ blen (m - 1) + k ≤ 65536) :
    CallV Try.prog 34 [.int .i64 (k : Int), .int .i64 (m : Int), .int .i64 (j : Int)] w fun v w' => ∃ s row, v = .tuple #[s, .int .i64 0] ∧ Ow w.heap.size w' s row ∧ row.length = k ∧ (∀ i, i < k → (co row).c i = fac (blen (m - 1)) j i) ∧ RowKit.Below w.heap.size w w' := by
  refine run_gener_Words (by simp) ?_
  have hu8 : blen (m - 1) ≤ 16 := blen_lt (by omega)
  have hlt : m - 1 < 2 ^ blen (m - 1) := lt_blen _
  have e0 : IntKind.i64.wrap ((m : Int) - 1) = ((m - 1 : Nat) : Int) := w_subl m 1 hm1 (by omega)
  have e1 : IntKind.u64.wrap ((m - 1 : Nat) : Int) = ((m - 1 : Nat) : Int) := wrap_u64 _ (by omega)
  have hk65 : k ≤ 65536 := by omega
  simp (maxSteps := 1000000) (disch := omega) only [c_gener_Words, WS, List.getElem_cons_zero, List.getElem_cons_succ, Option.isNone_some, Option.isNone_none, List.getD_cons_zero, List.getD_cons_succ, I.at, atL, atO, atP, evp, evs, retV, ↓reduceIte, Nat.reduceEqDiff, reduceCtorEq, decide_eq_true, decide_eq_false, e0, e1]
  refine X_call0 ((bits_Len_spec w (m - 1) (by omega)).mono ?_)
  rintro _ w' ⟨rfl, rfl⟩
  generalize blen (m - 1) = u at *
  have hp := Nat.two_pow_pos u
  have e2 : shlV .i64 1 (u : Int) = ((2 ^ u : Nat) : Int) := by
    have := shl_nat fits_i64 1 u (by show u ≤ 64; omega) (by rw [Nat.one_mul]; exact Nat.pow_lt_pow_right (by omega) (by omega))
    rw [Nat.one_shiftLeft] at this
    exact this
  simp (maxSteps := 1000000) (disch := omega) only [WS, List.getElem_cons_zero, List.getElem_cons_succ, Option.isNone_some, Option.isNone_none, List.getD_cons_zero, List.getD_cons_succ, I.at, atL, atO, atP, evp, evs, retV, ↓reduceIte, Nat.reduceEqDiff, reduceCtorEq, AS, X_shl, Int.natCast_nonneg, e2]
  refine X_call0 ((gf16_New_spec w').mono ?_)
  rintro pt w0 ⟨hT, hB0⟩
  simp (maxSteps := 1000000) (disch := omega) only [WS, List.getElem_cons_zero, List.getElem_cons_succ, Option.isNone_some, Option.isNone_none, List.getD_cons_zero, List.getD_cons_succ, I.at, atL, atO, atP, evp, evs, retV, ↓reduceIte, Nat.reduceEqDiff, reduceCtorEq, AS]
  refine X_call0 ((gf16_Element_spec w0 (j : Int)).mono ?_)
  rintro _ w1 ⟨hB, ⟨-, -, rfl⟩ | ⟨hbad, -⟩⟩
  rotate_left
  · exact absurd ⟨by omega, by omega⟩ hbad
  rw [Int.toNat_natCast]
  have B := hB
  clear hB
  simp (maxSteps := 1000000) (disch := omega) only [WS, List.getElem_cons_zero, List.getElem_cons_succ, Option.isNone_some, Option.isNone_none, List.getD_cons_zero, List.getD_cons_succ, I.at, atL, atO, atP, evp, evs, retV, ↓reduceIte, Nat.reduceEqDiff, reduceCtorEq, AS]
  refine X_mks (x := (0 : El 16)) (by simp only [maxBytes]; omega) (by omega) fun sr w2 or0 hB => ?_
  have or1 := or0.mono B.size
  clear or0
  have B := B.trans (hB.mono B.size)
  clear hB
  simp (maxSteps := 1000000) (disch := omega) only [WS, List.getElem_cons_zero, List.getElem_cons_succ, Option.isNone_some, Option.isNone_none, List.getD_cons_zero, List.getD_cons_succ, I.at, atL, atO, atP, evp, evs, retV, ↓reduceIte, Nat.reduceEqDiff, reduceCtorEq, AS, or1.sl.Xlen, List.length_replicate]
  refine loop_of (fun t w2 => t 8 = .int .i64 (u : Int) ∧ t 9 = .int .i64 ((2 ^ u : Nat) : Int) ∧ t 10 = .func (.func 68) #[pt] #[] ∧ t 54 = .tuple #[.int .u16 ((wel j).v.toNat : Int), .int .i64 0] ∧ t 11 = .int .u16 ((wel j).v.toNat : Int) ∧ t 13 = sr ∧ t 65 = .int .i64 (k : Int) ∧ RowKit.Below w0.heap.size w0 w2 ∧ ∃ (i : Nat) (row : List (El 16)), t 66 = .int .i64 (i : Int) ∧ i ≤ k ∧ Ow w0.heap.size w2 sr row ∧ row.length = k ∧ ∀ x, x < i → (co row).c x = fac u j x)
    (fun t _ => k - (toI (t 66)).toNat) ⟨by simp only [WS, List.getElem_cons_zero, List.getElem_cons_succ, Option.isNone_some, Option.isNone_none, List.getD_cons_zero, List.getD_cons_succ, I.at, atL, atO, atP, evp, evs, retV, ↓reduceIte, Nat.reduceEqDiff, reduceCtorEq], by simp only [WS, List.getElem_cons_zero, List.getElem_cons_succ, Option.isNone_some, Option.isNone_none, List.getD_cons_zero, List.getD_cons_succ, I.at, atL, atO, atP, evp, evs, retV, ↓reduceIte, Nat.reduceEqDiff, reduceCtorEq], by simp only [WS, List.getElem_cons_zero, List.getElem_cons_succ, Option.isNone_some, Option.isNone_none, List.getD_cons_zero, List.getD_cons_succ, I.at, atL, atO, atP, evp, evs, retV, ↓reduceIte, Nat.reduceEqDiff, reduceCtorEq], by simp only [WS, List.getElem_cons_zero, List.getElem_cons_succ, Option.isNone_some, Option.isNone_none, List.getD_cons_zero, List.getD_cons_succ, I.at, atL, atO, atP, evp, evs, retV, ↓reduceIte, Nat.reduceEqDiff, reduceCtorEq], by simp only [WS, List.getElem_cons_zero, List.getElem_cons_succ, Option.isNone_some, Option.isNone_none, List.getD_cons_zero, List.getD_cons_succ, I.at, atL, atO, atP, evp, evs, retV, ↓reduceIte, Nat.reduceEqDiff, reduceCtorEq], by simp only [WS, List.getElem_cons_zero, List.getElem_cons_succ, Option.isNone_some, Option.isNone_none, List.getD_cons_zero, List.getD_cons_succ, I.at, atL, atO, atP, evp, evs, retV, ↓reduceIte, Nat.reduceEqDiff, reduceCtorEq], by simp only [WS, List.getElem_cons_zero, List.getElem_cons_succ, Option.isNone_some, Option.isNone_none, List.getD_cons_zero, List.getD_cons_succ, I.at, atL, atO, atP, evp, evs, retV, ↓reduceIte, Nat.reduceEqDiff, reduceCtorEq], B, 0, _, rfl, by omega, or1, by simp, fun x hx => by omega⟩ ?_
  clear B or1
  rintro t w3 ⟨t8, t9, t10, t54, t11, t13, t65, B, i, row, t66, hi, or, hrl, hrc⟩
  by_cases hil : i < k
  · have ir : i < row.length := by omega
    have hs : (2 ^ u + i) >>> u < 65536 := by rw [Nat.shiftRight_eq_div_pow]; exact Nat.lt_of_le_of_lt (Nat.div_le_self _ _) (by omega)
    have hne : wel j + wel (2 ^ u + i) ≠ 0 := wel_ne (by omega) (by omega) (by omega)
    simp (maxSteps := 1000000) (disch := omega) only [WS, List.getElem_cons_zero, List.getElem_cons_succ, Option.isNone_some, Option.isNone_none, List.getD_cons_zero, List.getD_cons_succ, I.at, atL, atO, atP, evp, evs, retV, ↓reduceIte, Nat.reduceEqDiff, reduceCtorEq, AS, t8, t9, t10, t54, t11, t13, t65, t66, X_shr, Int.natCast_nonneg, shr_nat .i64 (2 ^ u + i) u (by show u ≤ 64; omega)]
    refine X_call0 ((gf16_Element_spec w3 (((2 ^ u + i) >>> u : Nat) : Int)).mono ?_)
    rintro _ w4 ⟨hB, ⟨-, -, rfl⟩ | ⟨hbad, -⟩⟩
    rotate_left
    · exact absurd (show 0 ≤ (((2 ^ u + i) >>> u : Nat) : Int) ∧ (((2 ^ u + i) >>> u : Nat) : Int) < 65536 by generalize (2 ^ u + i) >>> u = z at *; omega) hbad
    rw [Int.toNat_natCast]
    have or := or.up hB
    have B := B.trans (hB.mono B.size)
    clear hB
    simp (maxSteps := 1000000) (disch := omega) only [WS, List.getElem_cons_zero, List.getElem_cons_succ, Option.isNone_some, Option.isNone_none, List.getD_cons_zero, List.getD_cons_succ, I.at, atL, atO, atP, evp, evs, retV, ↓reduceIte, Nat.reduceEqDiff, reduceCtorEq, AS, t8, t9, t10, t54, t11, t13, t65, t66]
    refine X_call0 ((gf16_Element_spec w4 ((2 ^ u + i : Nat) : Int)).mono ?_)
    rintro _ w5 ⟨hB, ⟨-, -, rfl⟩ | ⟨hbad, -⟩⟩
    rotate_left
    · exact absurd ⟨by omega, by omega⟩ hbad
    rw [Int.toNat_natCast]
    have or := or.up hB
    have B := B.trans (hB.mono B.size)
    clear hB
    simp (maxSteps := 1000000) (disch := omega) only [WS, List.getElem_cons_zero, List.getElem_cons_succ, Option.isNone_some, Option.isNone_none, List.getD_cons_zero, List.getD_cons_succ, I.at, atL, atO, atP, evp, evs, retV, ↓reduceIte, Nat.reduceEqDiff, reduceCtorEq, AS, t8, t9, t10, t54, t11, t13, t65, t66, xor16]
    refine X_call (a := #[pt]) (c := #[]) ?_
    have hcall := gf16_Tables_Div_spec w5 pt (hT.up B) (wel ((2 ^ u + i) >>> u)) (wel j + wel (2 ^ u + i)) hne
    simp only [evs, atL, List.nil_append, List.cons_append, List.append_nil]
    refine hcall.mono ?_
    clear hcall
    rintro _ w6 ⟨rfl, hL⟩
    have hB := hL.1
    clear hL
    have or := or.up hB
    have B := B.trans (hB.mono B.size)
    clear hB
    simp (maxSteps := 1000000) (disch := omega) only [WS, List.getElem_cons_zero, List.getElem_cons_succ, Option.isNone_some, Option.isNone_none, List.getD_cons_zero, List.getD_cons_succ, I.at, atL, atO, atP, evp, evs, retV, ↓reduceIte, Nat.reduceEqDiff, reduceCtorEq, AS, t8, t9, t10, t54, t11, t13, t65, t66, or.sl.Xix ir]
    refine Ow.Xst or ir (wel ((2 ^ u + i) >>> u) * (wel j + wel (2 ^ u + i)).inv) fun w7 or2 hg => ?_
    have B := B.grown hg B.size fun b hb => (or.blk b hb).1
    simp (maxSteps := 1000000) (disch := omega) only [WS, List.getElem_cons_zero, List.getElem_cons_succ, Option.isNone_some, Option.isNone_none, List.getD_cons_zero, List.getD_cons_succ, I.at, atL, atO, atP, evp, evs, retV, ↓reduceIte, Nat.reduceEqDiff, reduceCtorEq, AS, t8, t9, t10, t54, t11, t13, t65, t66]
    refine ⟨⟨B, i + 1, _, rfl, by omega, or2, by simp [hrl], fun x hx => ?_⟩, by omega⟩
    rw [co_set _ ir]
    by_cases hxi : x = i
    · subst hxi; rw [if_pos rfl]; rfl
    · rw [if_neg hxi]; exact hrc x (by omega)
  · obtain rfl : i = k := by omega
    simp (maxSteps := 1000000) (disch := omega) only [WS, List.getElem_cons_zero, List.getElem_cons_succ, Option.isNone_some, Option.isNone_none, List.getD_cons_zero, List.getD_cons_succ, I.at, atL, atO, atP, evp, evs, retV, ↓reduceIte, Nat.reduceEqDiff, reduceCtorEq, AS, t8, t9, t10, t54, t11, t13, t65, t66]
    exact ⟨sr, row, rfl, or.mono hB0.size, hrl, hrc, hB0.trans (B.mono hB0.size)⟩
theorem gener_Words_spec (w : World) (k m j : Nat) (hk1 : 1 ≤ k) (hm1 : 1 ≤ m) (hm : m ≤ 65536) (hj : j < m) (hN : 2 ^ blen (m - 1) + k ≤ 65536) :
    CallV Try.prog 34 [.int .i64 (k : Int), .int .i64 (m : Int), .int .i64 (j : Int)] w fun v w' => ∃ s row, v = .tuple #[s, .int .i64 0] ∧ Ow w.heap.size w' s row ∧ row.length = k ∧ (∀ i, i < k → (co row).c i = fac (blen (m - 1)) j i) ∧ RowKit.Below w.heap.size w w' := by
  by_cases h : k ≤ 256
  · exact gener_Words_s_spec w k m j hk1 h hm1 hm hj hN
  · exact gener_Words_b_spec w k m j hk1 ⟨by omega, by have := Nat.two_pow_pos (blen (m - 1)); omega⟩ hm1 hm hj hN
end Go.Proofs.Ytbaljbadlfopgaa.Fw
