import Derived.Test.YtcnabolainmaeaaProg
import Derived.Test.YtcnabolainmaeaaFwTM
import Derived.Test.YtcnabolainmaeaaSS13rM
import Derived.Test.YtcnabolainmaeaaGfLM
import Derived.Test.YtcnabolainmaeaaGfNM
set_option linter.all false
set_option linter.unusedVariables false
set_option linter.unusedSimpArgs false
set_option maxRecDepth 100000
set_option maxHeartbeats 1000000
namespace Go.Proofs.Ytcnabolainmaeaa.Fw
open Go Go.Fw Go.Proofs
attribute [local irreducible] stepI
def c_lch_Skew : C := .seq (.ops [⟨0, (some 4), none, .mov (.c (.int .u16 0)), []⟩, ⟨1, (some 5), none, .mov (.c (.int .i64 0)), []⟩]) (.seq (.seq (.ops [⟨0, (some 8), none, .mov (.t 0), []⟩, ⟨1, (some 9), none, .bin .lss (.t 8) (.c (.int .i64 0)), []⟩, ⟨2, (some 10), none, .mov (.t 9), []⟩, ⟨3, (some 11), (some (10, false)), .mov (.t 0), []⟩, ⟨4, (some 12), (some (10, false)), .bin .gtr (.t 11) (.c (.int .i64 16)), []⟩, ⟨5, (some 13), none, .pick (.t 10) (.c (.bool true)) (.t 12), []⟩]) (.ite (.t 13) (.seq (.ops [⟨0, (some 4), none, .mov (.c (.int .u16 0)), []⟩, ⟨1, (some 5), none, .mov (.c (.int .i64 7)), []⟩]) .ret) .skip)) (.seq (.seq (.ops [⟨0, (some 14), none, .mov (.t 1), []⟩, ⟨1, (some 15), none, .bin .lss (.t 14) (.c (.int .i64 0)), []⟩, ⟨2, (some 16), none, .mov (.t 15), []⟩, ⟨3, (some 17), (some (16, false)), .mov (.t 1), []⟩, ⟨4, (some 18), (some (16, false)), .bin .gtr (.t 17) (.c (.int .i64 65535)), []⟩, ⟨5, (some 19), none, .pick (.t 16) (.c (.bool true)) (.t 18), []⟩]) (.ite (.t 19) (.seq (.ops [⟨0, (some 4), none, .mov (.c (.int .u16 0)), []⟩, ⟨1, (some 5), none, .mov (.c (.int .i64 31)), []⟩]) .ret) .skip)) (.seq (.ops [⟨0, (some 21), none, .mov (.t 1), []⟩, ⟨1, (some 22), none, .mov (.t 0), []⟩, ⟨2, (some 23), none, .bin .shr (.t 21) (.t 22), []⟩, ⟨3, (some 24), none, .call (.c (.func (.func 17) #[] #[])) [.t 23], []⟩, ⟨4, (some 20), none, .mov (.t 24), []⟩, ⟨5, (some 25), none, .ext (.t 20) 0, []⟩, ⟨6, (some 26), none, .ext (.t 20) 1, []⟩, ⟨7, (some 6), none, .mov (.t 25), []⟩, ⟨8, (some 7), none, .mov (.t 26), []⟩]) (.seq (.ops [⟨0, (some 27), none, .mov (.t 6), []⟩, ⟨1, (some 28), none, .mov (.t 7), []⟩, ⟨2, (some 4), none, .mov (.t 27), []⟩, ⟨3, (some 5), none, .mov (.t 28), []⟩]) .ret))))
attribute [irreducible] c_lch_Skew
theorem run_lch_Skew {args : List Value} {w : World} {K : Value → World → Prop} (hn : args.length ≤ 29) (h : WP Try.prog c_lch_Skew (endQ [.t 4, .t 5] K) (initT args) w) : CallV Try.prog 16 args w K :=
  call_of follows Try.func16 (by kernel_rfl) (by kernel_rfl) hn h
def c_gf16_Element : C := .seq (.ops [⟨0, (some 2), none, .mov (.c (.int .u16 0)), []⟩, ⟨1, (some 3), none, .mov (.c (.int .i64 0)), []⟩]) (.seq (.seq (.ops [⟨0, (some 4), none, .mov (.t 0), []⟩, ⟨1, (some 5), none, .bin .lss (.t 4) (.c (.int .i64 0)), []⟩, ⟨2, (some 6), none, .mov (.t 5), []⟩, ⟨3, (some 7), (some (6, false)), .mov (.t 0), []⟩, ⟨4, (some 8), (some (6, false)), .bin .gtr (.t 7) (.c (.int .i64 65535)), []⟩, ⟨5, (some 9), none, .pick (.t 6) (.c (.bool true)) (.t 8), []⟩]) (.ite (.t 9) (.seq (.ops [⟨0, (some 2), none, .mov (.c (.int .u16 0)), []⟩, ⟨1, (some 3), none, .mov (.c (.int .i64 31)), []⟩]) .ret) .skip)) (.seq (.ops [⟨0, (some 10), none, .mov (.t 0), []⟩, ⟨1, (some 11), none, .call (.c (.func (.func 33) #[] #[])) [.t 10], []⟩, ⟨2, (some 2), none, .mov (.t 11), []⟩, ⟨3, (some 3), none, .mov (.c (.int .i64 0)), []⟩]) .ret))
attribute [irreducible] c_gf16_Element
theorem run_gf16_Element {args : List Value} {w : World} {K : Value → World → Prop} (hn : args.length ≤ 12) (h : WP Try.prog c_gf16_Element (endQ [.t 2, .t 3] K) (initT args) w) : CallV Try.prog 17 args w K :=
  call_of follows Try.func17 (by kernel_rfl) (by kernel_rfl) hn h
def c_gf16_element : C := .seq (.ops [⟨0, (some 2), none, .mov (.c (.int .u16 0)), []⟩]) (.seq (.ops [⟨0, (some 3), none, .mov (.c (.int .u16 0)), []⟩]) (.seq (.seq (.ops [⟨0, (some 6), none, .call (.c (.func (.func 42) #[] #[])) [], []⟩, ⟨1, (some 7), none, .mov (.c (.int .i64 0)), []⟩]) (.block 0 (.loop (.seq (.ops [⟨0, (some 8), none, .bin .lss (.t 7) (.c (.int .i64 16)), []⟩]) (.seq (.ite (.t 8) .skip (.exit 0)) (.seq (.block 1 (.seq (.ops [⟨0, (some 9), none, .mov (.t 7), []⟩, ⟨1, (some 10), none, .ixv 16 (.t 6) (.t 7), []⟩, ⟨2, (some 4), none, .mov (.t 9), []⟩, ⟨3, (some 5), none, .mov (.t 10), []⟩]) (.seq (.ops [⟨0, (some 11), none, .mov (.t 0), []⟩, ⟨1, (some 12), none, .mov (.t 4), []⟩, ⟨2, (some 13), none, .bin .shr (.t 11) (.t 12), []⟩, ⟨3, (some 14), none, .bin .and (.t 13) (.c (.int .i64 1)), []⟩, ⟨4, (some 15), none, .bin .eql (.t 14) (.c (.int .i64 1)), []⟩]) (.ite (.t 15) (.ops [⟨0, (some 16), none, .mov (.t 3), []⟩, ⟨1, (some 17), none, .mov (.t 5), []⟩, ⟨2, (some 18), none, .bin .xor (.t 16) (.t 17), []⟩, ⟨3, (some 3), none, .mov (.t 18), []⟩]) .skip)))) (.ops [⟨0, (some 19), none, .bin .add (.t 7) (.c (.int .i64 1)), []⟩, ⟨1, (some 7), none, .mov (.t 19), []⟩]))))))) (.seq (.ops [⟨0, (some 20), none, .mov (.t 3), []⟩, ⟨1, (some 2), none, .mov (.t 20), []⟩]) .ret)))
attribute [irreducible] c_gf16_element
theorem run_gf16_element {args : List Value} {w : World} {K : Value → World → Prop} (hn : args.length ≤ 21) (h : WP Try.prog c_gf16_element (endQ [.t 2] K) (initT args) w) : CallV Try.prog 33 args w K :=
  call_of follows Try.func33 (by kernel_rfl) (by kernel_rfl) hn h
def c_gf16_basis : C := .seq (.ops [⟨0, (some 0), none, .alloc 67 (List.replicate 16 (.int .u16 0)), []⟩]) (.seq (.ops [⟨0, (some 1), none, .bld (List.replicate 16 (.int .u16 0)) [(0, (1, .c (.int .u16 1))), (1, (1, .c (.int .u16 44234))), (2, (1, .c (.int .u16 15374))), (3, (1, .c (.int .u16 5694))), (4, (1, .c (.int .u16 50562))), (5, (1, .c (.int .u16 60718))), (6, (1, .c (.int .u16 37196))), (7, (1, .c (.int .u16 16402))), (8, (1, .c (.int .u16 27800))), (9, (1, .c (.int .u16 4312))), (10, (1, .c (.int .u16 27250))), (11, (1, .c (.int .u16 47360))), (12, (1, .c (.int .u16 64952))), (13, (1, .c (.int .u16 64308))), (14, (1, .c (.int .u16 65336))), (15, (1, .c (.int .u16 39198)))], []⟩, ⟨1, none, none, .stn 16 (.t 0) (.t 1), []⟩]) .ret)
attribute [irreducible] c_gf16_basis
theorem run_gf16_basis {args : List Value} {w : World} {K : Value → World → Prop} (hn : args.length ≤ 2) (h : WP Try.prog c_gf16_basis (endQ [.cn 0 16] K) (initT args) w) : CallV Try.prog 42 args w K :=
  call_of follows Try.func42 (by kernel_rfl) (by kernel_rfl) hn h
end Go.Proofs.Ytcnabolainmaeaa.Fw
namespace Go.Proofs.Ytcnabolainmaeaa.Fw
open Go Go.Fw
def basV : List Value := [.int .u16 1, .int .u16 44234, .int .u16 15374, .int .u16 5694, .int .u16 50562, .int .u16 60718, .int .u16 37196, .int .u16 16402, .int .u16 27800, .int .u16 4312, .int .u16 27250, .int .u16 47360, .int .u16 64952, .int .u16 64308, .int .u16 65336, .int .u16 39198]
theorem basV_get (k : Nat) (h : k < 16) (K : Value → Prop) : getK basV k K = K (.int .u16 ((cbs.getD k 0).toNat : Int)) := by
  have : k = 0 ∨ k = 1 ∨ k = 2 ∨ k = 3 ∨ k = 4 ∨ k = 5 ∨ k = 6 ∨ k = 7 ∨ k = 8 ∨ k = 9 ∨ k = 10 ∨ k = 11 ∨ k = 12 ∨ k = 13 ∨ k = 14 ∨ k = 15 := by omega
  rcases this with rfl | rfl | rfl | rfl | rfl | rfl | rfl | rfl | rfl | rfl | rfl | rfl | rfl | rfl | rfl | rfl <;> rfl
theorem gf16_basis_spec (w : World) : CallV Try.prog 42 [] w fun v w' => v = .agg basV.toArray ∧ RowKit.Below w.heap.size w w' := by
  refine run_gf16_basis (by simp) ?_
  unfold c_gf16_basis
  generalize hz : List.replicate 16 (Value.int .u16 0) = z
  exact tabWP (cs := basV) (by subst hz; kernel_rfl) (fun _ _ => rfl) (by subst hz; kernel_rfl) (by kernel_rfl) (by simp [basV, scal]) fun w' h => ⟨rfl, h⟩
theorem gf16_element_spec (w : World) (n : Nat) (hn : n < 65536) : CallV Try.prog 33 [.int .i64 (n : Int)] w fun v w' => v = .int .u16 ((wel n).v.toNat : Int) ∧ RowKit.Below w.heap.size w w' := by
  refine run_gf16_element (by simp) ?_
  simp only [c_gf16_element, WS, List.getElem_cons_zero, List.getElem_cons_succ, Option.isNone_some, Option.isNone_none, List.getD_cons_zero, List.getD_cons_succ, I.at, atL, atO, atP, evp, evs, retV, ↓reduceIte, Nat.reduceEqDiff, reduceCtorEq]
  refine X_call0 ((gf16_basis_spec w).mono ?_)
  rintro _ w1 ⟨rfl, hB⟩
  simp (maxSteps := 1000000) (disch := omega) only [WS, List.getElem_cons_zero, List.getElem_cons_succ, Option.isNone_some, Option.isNone_none, List.getD_cons_zero, List.getD_cons_succ, I.at, atL, atO, atP, evp, evs, retV, ↓reduceIte, Nat.reduceEqDiff, reduceCtorEq, AS]
  refine loop_of (fun t w' => t 0 = .int .i64 (n : Int) ∧ t 6 = .agg basV.toArray ∧ RowKit.Below w.heap.size w w' ∧ ∃ k : Nat, t 7 = .int .i64 (k : Int) ∧ k ≤ 16 ∧ t 3 = .int .u16 ((bsum (fun t => sel (n.testBit t) (cbs.getD t 0)) k).toNat : Int)) (fun t _ => 16 - (toI (t 7)).toNat)
    ⟨by simp only [WS, List.getElem_cons_zero, List.getElem_cons_succ, Option.isNone_some, Option.isNone_none, List.getD_cons_zero, List.getD_cons_succ, I.at, atL, atO, atP, evp, evs, retV, ↓reduceIte, Nat.reduceEqDiff, reduceCtorEq], by simp only [WS, List.getElem_cons_zero, List.getElem_cons_succ, Option.isNone_some, Option.isNone_none, List.getD_cons_zero, List.getD_cons_succ, I.at, atL, atO, atP, evp, evs, retV, ↓reduceIte, Nat.reduceEqDiff, reduceCtorEq], hB, 0, rfl, by omega, rfl⟩ ?_
  rintro t w2 ⟨t0, t6, hB, k, t7, hk, t3⟩
  by_cases hlt : k < 16
  · simp (maxSteps := 1000000) (disch := omega) only [WS, List.getElem_cons_zero, List.getElem_cons_succ, Option.isNone_some, Option.isNone_none, List.getD_cons_zero, List.getD_cons_succ, I.at, atL, atO, atP, evp, evs, retV, ↓reduceIte, Nat.reduceEqDiff, reduceCtorEq, AS, t0, t6, t7, t3, X_ixv, Int.natCast_nonneg, Int.toNat_natCast, basV_get k hlt, show (((k : Int) < ((16 : Nat) : Int)) = True) from eq_true (by omega), X_shr, shr_nat .i64 n k (by show k ≤ 64; omega)]
    have e1 : bitsOp .and .i64 ((n >>> k : Nat) : Int) 1 = (((n >>> k) &&& 1 : Nat) : Int) := bits_and fits_i64 (b := 1) (by rw [Nat.shiftRight_eq_div_pow]; exact Nat.lt_of_le_of_lt (Nat.div_le_self _ _) (Nat.lt_trans hn (by decide))) (by decide)
    rw [e1, and_one_shr]
    by_cases hb : n.testBit k = true
    · rw [if_pos hb]
      simp (maxSteps := 1000000) (disch := omega) only [WS, List.getElem_cons_zero, List.getElem_cons_succ, Option.isNone_some, Option.isNone_none, List.getD_cons_zero, List.getD_cons_succ, I.at, atL, atO, atP, evp, evs, retV, ↓reduceIte, Nat.reduceEqDiff, reduceCtorEq, AS, t0, t6, t7, t3, show decide ((((1 : Nat)) : Int) = 1) = true from rfl]
      refine ⟨⟨hB, k + 1, rfl, by omega, ?_⟩, by omega⟩
      rw [bits_xor fits_u16 (BitVec.isLt _) (BitVec.isLt _), ← BitVec.toNat_xor]
      show _ = Value.int .u16 ((bsum _ k ^^^ sel (n.testBit k) _).toNat : Int)
      rw [hb]; rfl
    · rw [if_neg hb]
      simp (maxSteps := 1000000) (disch := omega) only [WS, List.getElem_cons_zero, List.getElem_cons_succ, Option.isNone_some, Option.isNone_none, List.getD_cons_zero, List.getD_cons_succ, I.at, atL, atO, atP, evp, evs, retV, ↓reduceIte, Nat.reduceEqDiff, reduceCtorEq, AS, t0, t6, t7, t3, show decide ((((0 : Nat)) : Int) = 1) = false from rfl]
      refine ⟨⟨hB, k + 1, rfl, by omega, ?_⟩, by omega⟩
      show _ = Value.int .u16 ((bsum _ k ^^^ sel (n.testBit k) _).toNat : Int)
      rw [Bool.eq_false_iff.2 hb]
      show _ = Value.int .u16 ((bsum _ k ^^^ 0#16).toNat : Int)
      rw [BitVec.xor_zero]
  · obtain rfl : k = 16 := by omega
    simp (maxSteps := 1000000) (disch := omega) only [WS, List.getElem_cons_zero, List.getElem_cons_succ, Option.isNone_some, Option.isNone_none, List.getD_cons_zero, List.getD_cons_succ, I.at, atL, atO, atP, evp, evs, retV, ↓reduceIte, Nat.reduceEqDiff, reduceCtorEq, AS, t0, t6, t7, t3, show decide (((16 : Nat) : Int) < 16) = false from rfl]
    refine ⟨?_, hB⟩
    congr 3
    show _ = bw (BitVec.ofNat 16 n)
    unfold bw
    refine bsum_congr 16 fun i hi => ?_
    congr 1
    rw [BitVec.getLsbD_ofNat]
    simp [hi]
theorem gf16_Element_spec (w : World) (n : Int) : CallV Try.prog 17 [.int .i64 n] w fun v w' => RowKit.Below w.heap.size w w' ∧ ((0 ≤ n ∧ n < 65536 ∧ v = .tuple #[.int .u16 ((wel n.toNat).v.toNat : Int), .int .i64 0]) ∨ (¬ (0 ≤ n ∧ n < 65536) ∧ v = .tuple #[.int .u16 0, .int .i64 31])) := by
  refine run_gf16_Element (by simp) ?_
  simp only [c_gf16_Element, WS, List.getElem_cons_zero, List.getElem_cons_succ, Option.isNone_some, Option.isNone_none, List.getD_cons_zero, List.getD_cons_succ, I.at, atL, atO, atP, evp, evs, retV, ↓reduceIte, Nat.reduceEqDiff, reduceCtorEq]
  by_cases h0 : n < 0
  · simp (maxSteps := 1000000) (disch := omega) only [WS, List.getElem_cons_zero, List.getElem_cons_succ, Option.isNone_some, Option.isNone_none, List.getD_cons_zero, List.getD_cons_succ, I.at, atL, atO, atP, evp, evs, retV, ↓reduceIte, Nat.reduceEqDiff, reduceCtorEq, AS]
    exact ⟨RowKit.Below.refl _ _, Or.inr (by omega)⟩
  obtain ⟨n, rfl⟩ : ∃ m : Nat, n = (m : Int) := ⟨n.toNat, by omega⟩
  by_cases h1 : 65535 < n
  · simp (maxSteps := 1000000) (disch := omega) only [WS, List.getElem_cons_zero, List.getElem_cons_succ, Option.isNone_some, Option.isNone_none, List.getD_cons_zero, List.getD_cons_succ, I.at, atL, atO, atP, evp, evs, retV, ↓reduceIte, Nat.reduceEqDiff, reduceCtorEq, AS]
    exact ⟨RowKit.Below.refl _ _, Or.inr (by omega)⟩
  simp (maxSteps := 1000000) (disch := omega) only [WS, List.getElem_cons_zero, List.getElem_cons_succ, Option.isNone_some, Option.isNone_none, List.getD_cons_zero, List.getD_cons_succ, I.at, atL, atO, atP, evp, evs, retV, ↓reduceIte, Nat.reduceEqDiff, reduceCtorEq, AS]
  refine X_call0 ((gf16_element_spec w n (by omega)).mono ?_)
  rintro _ w1 ⟨rfl, hB⟩
  simp (maxSteps := 1000000) (disch := omega) only [WS, List.getElem_cons_zero, List.getElem_cons_succ, Option.isNone_some, Option.isNone_none, List.getD_cons_zero, List.getD_cons_succ, I.at, atL, atO, atP, evp, evs, retV, ↓reduceIte, Nat.reduceEqDiff, reduceCtorEq, AS, Int.toNat_natCast]
  exact ⟨hB, Or.inl (by omega)⟩
theorem lch_Skew_spec (w : World) (i j : Int) : CallV Try.prog 16 [.int .i64 i, .int .i64 j] w fun v w' => RowKit.Below w.heap.size w w' ∧
    ((0 ≤ i ∧ i ≤ 16 ∧ 0 ≤ j ∧ j < 65536 ∧ v = .tuple #[.int .u16 ((wel (j.toNat >>> i.toNat)).v.toNat : Int), .int .i64 0]) ∨ (¬ (0 ≤ i ∧ i ≤ 16) ∧ v = .tuple #[.int .u16 0, .int .i64 7]) ∨ (0 ≤ i ∧ i ≤ 16 ∧ ¬ (0 ≤ j ∧ j < 65536) ∧ v = .tuple #[.int .u16 0, .int .i64 31])) := by
  refine run_lch_Skew (by simp) ?_
  simp only [c_lch_Skew, WS, List.getElem_cons_zero, List.getElem_cons_succ, Option.isNone_some, Option.isNone_none, List.getD_cons_zero, List.getD_cons_succ, I.at, atL, atO, atP, evp, evs, retV, ↓reduceIte, Nat.reduceEqDiff, reduceCtorEq]
  by_cases h0 : i < 0
  · simp (maxSteps := 1000000) (disch := omega) only [WS, List.getElem_cons_zero, List.getElem_cons_succ, Option.isNone_some, Option.isNone_none, List.getD_cons_zero, List.getD_cons_succ, I.at, atL, atO, atP, evp, evs, retV, ↓reduceIte, Nat.reduceEqDiff, reduceCtorEq, AS]
    exact ⟨RowKit.Below.refl _ _, Or.inr (Or.inl (by omega))⟩
  obtain ⟨i, rfl⟩ : ∃ m : Nat, i = (m : Int) := ⟨i.toNat, by omega⟩
  by_cases h1 : 16 < i
  · simp (maxSteps := 1000000) (disch := omega) only [WS, List.getElem_cons_zero, List.getElem_cons_succ, Option.isNone_some, Option.isNone_none, List.getD_cons_zero, List.getD_cons_succ, I.at, atL, atO, atP, evp, evs, retV, ↓reduceIte, Nat.reduceEqDiff, reduceCtorEq, AS]
    exact ⟨RowKit.Below.refl _ _, Or.inr (Or.inl (by omega))⟩
  by_cases h2 : j < 0
  · simp (maxSteps := 1000000) (disch := omega) only [WS, List.getElem_cons_zero, List.getElem_cons_succ, Option.isNone_some, Option.isNone_none, List.getD_cons_zero, List.getD_cons_succ, I.at, atL, atO, atP, evp, evs, retV, ↓reduceIte, Nat.reduceEqDiff, reduceCtorEq, AS]
    exact ⟨RowKit.Below.refl _ _, Or.inr (Or.inr (by omega))⟩
  obtain ⟨j, rfl⟩ : ∃ m : Nat, j = (m : Int) := ⟨j.toNat, by omega⟩
  by_cases h3 : 65535 < j
  · simp (maxSteps := 1000000) (disch := omega) only [WS, List.getElem_cons_zero, List.getElem_cons_succ, Option.isNone_some, Option.isNone_none, List.getD_cons_zero, List.getD_cons_succ, I.at, atL, atO, atP, evp, evs, retV, ↓reduceIte, Nat.reduceEqDiff, reduceCtorEq, AS]
    exact ⟨RowKit.Below.refl _ _, Or.inr (Or.inr (by omega))⟩
  simp (maxSteps := 1000000) (disch := omega) only [WS, List.getElem_cons_zero, List.getElem_cons_succ, Option.isNone_some, Option.isNone_none, List.getD_cons_zero, List.getD_cons_succ, I.at, atL, atO, atP, evp, evs, retV, ↓reduceIte, Nat.reduceEqDiff, reduceCtorEq, AS, X_shr, Int.natCast_nonneg, shr_nat .i64 j i (by show i ≤ 64; omega)]
  refine X_call0 ((gf16_Element_spec w _).mono ?_)
  have hs : j >>> i < 65536 := by rw [Nat.shiftRight_eq_div_pow]; exact Nat.lt_of_le_of_lt (Nat.div_le_self _ _) (by omega)
  rintro _ w1 ⟨hB, ⟨-, -, rfl⟩ | ⟨hn, -⟩⟩
  · simp (maxSteps := 1000000) (disch := omega) only [WS, List.getElem_cons_zero, List.getElem_cons_succ, Option.isNone_some, Option.isNone_none, List.getD_cons_zero, List.getD_cons_succ, I.at, atL, atO, atP, evp, evs, retV, ↓reduceIte, Nat.reduceEqDiff, reduceCtorEq, AS, Int.toNat_natCast]
    exact ⟨hB, Or.inl (by omega)⟩
  · exact absurd (show 0 ≤ ((j >>> i : Nat) : Int) ∧ ((j >>> i : Nat) : Int) < 65536 by generalize j >>> i = z at *; omega) hn
end Go.Proofs.Ytcnabolainmaeaa.Fw

set_option linter.unusedVariables false
set_option linter.unusedSimpArgs false
set_option maxRecDepth 100000
set_option maxHeartbeats 1000000
namespace Go.Proofs.Ytcnabolainmaeaa.Fw
open Go Go.Fw Go.Proofs
attribute [local irreducible] stepI
def c_lch_Eval : C := .seq (.ops [⟨0, (some 4), none, .mov (.c (.int .u16 0)), []⟩, ⟨1, (some 5), none, .mov (.c (.int .i64 0)), []⟩]) (.seq (.seq (.ops [⟨0, (some 10), none, .mov (.t 0), []⟩, ⟨1, (some 11), none, .len (.t 10), []⟩, ⟨2, (some 12), none, .bin .gtr (.t 11) (.c (.int .i64 65536)), []⟩]) (.ite (.t 12) (.seq (.ops [⟨0, (some 4), none, .mov (.c (.int .u16 0)), []⟩, ⟨1, (some 5), none, .mov (.c (.int .i64 5)), []⟩]) .ret) .skip)) (.seq (.seq (.ops [⟨0, (some 13), none, .mov (.t 0), []⟩, ⟨1, (some 14), none, .len (.t 13), []⟩, ⟨2, (some 15), none, .bin .eql (.t 14) (.c (.int .i64 0)), []⟩]) (.ite (.t 15) (.seq (.ops [⟨0, (some 4), none, .mov (.c (.int .u16 0)), []⟩, ⟨1, (some 5), none, .mov (.c (.int .i64 0)), []⟩]) .ret) .skip)) (.seq (.ops [⟨0, (some 16), none, .mov (.t 0), []⟩, ⟨1, (some 17), none, .app 22 2 [.int .u16 0] (.c (.slice none 0 0)) (.t 16), []⟩, ⟨2, (some 6), none, .mov (.t 17), []⟩]) (.seq (.block 0 (.loop (.seq (.seq (.ops [⟨0, (some 18), none, .mov (.t 6), []⟩, ⟨1, (some 19), none, .len (.t 18), []⟩, ⟨2, (some 20), none, .bin .gtr (.t 19) (.c (.int .i64 1)), []⟩]) (.ite (.t 20) .skip (.exit 0))) (.block 1 (.seq (.ops [⟨0, (some 21), none, .mov (.t 6), []⟩, ⟨1, (some 22), none, .mov (.t 6), []⟩, ⟨2, (some 23), none, .len (.t 22), []⟩, ⟨3, (some 24), none, .bin .add (.t 23) (.c (.int .i64 1)), []⟩, ⟨4, (some 25), none, .bin .quo (.t 24) (.c (.int .i64 2)), []⟩, ⟨5, (some 26), none, .slc 1 (.t 21) none (some (.t 25)) none, []⟩, ⟨6, (some 7), none, .mov (.t 26), []⟩]) (.seq (.seq (.ops [⟨0, (some 27), none, .mov (.t 7), []⟩, ⟨1, (some 28), none, .len (.t 27), []⟩, ⟨2, (some 29), none, .mov (.c (.int .i64 0)), []⟩]) (.block 2 (.loop (.seq (.ops [⟨0, (some 30), none, .bin .lss (.t 29) (.t 28), []⟩]) (.seq (.ite (.t 30) .skip (.exit 2)) (.seq (.block 3 (.seq (.ops [⟨0, (some 31), none, .mov (.t 29), []⟩, ⟨1, (some 8), none, .mov (.t 31), []⟩]) (.seq (.ops [⟨0, (some 32), none, .mov (.t 6), []⟩, ⟨1, (some 33), none, .mov (.t 8), []⟩, ⟨2, (some 34), none, .bin .mul (.c (.int .i64 2)) (.t 33), []⟩, ⟨3, (some 35), none, .ixs 1 (.t 32) (.t 34), []⟩, ⟨4, (some 36), none, .ld (.t 35), []⟩, ⟨5, (some 9), none, .mov (.t 36), []⟩]) (.seq (.seq (.ops [⟨0, (some 37), none, .mov (.t 8), []⟩, ⟨1, (some 38), none, .bin .mul (.c (.int .i64 2)) (.t 37), []⟩, ⟨2, (some 39), none, .bin .add (.t 38) (.c (.int .i64 1)), []⟩, ⟨3, (some 40), none, .mov (.t 6), []⟩, ⟨4, (some 41), none, .len (.t 40), []⟩, ⟨5, (some 42), none, .bin .lss (.t 39) (.t 41), []⟩]) (.ite (.t 42) (.ops [⟨0, (some 43), none, .mov (.t 9), []⟩, ⟨1, (some 44), none, .mov (.t 1), []⟩, ⟨2, (some 45), none, .mov (.t 6), []⟩, ⟨3, (some 46), none, .mov (.t 8), []⟩, ⟨4, (some 47), none, .bin .mul (.c (.int .i64 2)) (.t 46), []⟩, ⟨5, (some 48), none, .bin .add (.t 47) (.c (.int .i64 1)), []⟩, ⟨6, (some 49), none, .ixs 1 (.t 45) (.t 48), []⟩, ⟨7, (some 50), none, .ld (.t 49), []⟩, ⟨8, (some 51), none, .call (.c (.func (.func 15) #[] #[])) [.t 44, .t 50], []⟩, ⟨9, (some 52), none, .bin .xor (.t 43) (.t 51), []⟩, ⟨10, (some 9), none, .mov (.t 52), []⟩]) .skip)) (.ops [⟨0, (some 53), none, .mov (.t 7), []⟩, ⟨1, (some 54), none, .mov (.t 8), []⟩, ⟨2, (some 55), none, .mov (.t 9), []⟩, ⟨3, (some 56), none, .ixs 1 (.t 53) (.t 54), []⟩, ⟨4, none, none, .st (.t 56) (.t 55), []⟩]))))) (.ops [⟨0, (some 57), none, .bin .add (.t 29) (.c (.int .i64 1)), []⟩, ⟨1, (some 29), none, .mov (.t 57), []⟩]))))))) (.seq (.ops [⟨0, (some 58), none, .mov (.t 7), []⟩, ⟨1, (some 6), none, .mov (.t 58), []⟩]) (.ops [⟨0, (some 59), none, .mov (.t 1), []⟩, ⟨1, (some 60), none, .mov (.t 1), []⟩, ⟨2, (some 61), none, .mov (.t 1), []⟩, ⟨3, (some 62), none, .call (.c (.func (.func 15) #[] #[])) [.t 60, .t 61], []⟩, ⟨4, (some 63), none, .bin .xor (.t 59) (.t 62), []⟩, ⟨5, (some 1), none, .mov (.t 63), []⟩])))))))) (.seq (.ops [⟨0, (some 64), none, .mov (.t 6), []⟩, ⟨1, (some 65), none, .ixs 1 (.t 64) (.c (.int .i64 0)), []⟩, ⟨2, (some 66), none, .ld (.t 65), []⟩, ⟨3, (some 4), none, .mov (.t 66), []⟩, ⟨4, (some 5), none, .mov (.c (.int .i64 0)), []⟩]) .ret)))))
attribute [irreducible] c_lch_Eval
theorem run_lch_Eval {args : List Value} {w : World} {K : Value → World → Prop} (hn : args.length ≤ 67) (h : WP Try.prog c_lch_Eval (endQ [.t 4, .t 5] K) (initT args) w) : CallV Try.prog 26 args w K :=
  call_of follows Try.func26 (by kernel_rfl) (by kernel_rfl) hn h
end Go.Proofs.Ytcnabolainmaeaa.Fw
namespace Go.Proofs.Ytcnabolainmaeaa.Fw
open Go Go.Fw
theorem evX_ext {k n : Nat} {f g : Nat → El 16} {x : El 16} (h : ∀ i, i < n → f i = g i) : evX k n f x = evX k n g x := by
  unfold evX
  exact esum_congr fun j hj => by rw [h j hj]
theorem evX_more {k n m : Nat} {f : Nat → El 16} {x : El 16} (h : ∀ i, n ≤ i → f i = 0) (hm : n ≤ m) : evX k m f x = evX k n f x := by
  obtain ⟨e, rfl⟩ : ∃ e, m = n + e := ⟨m - n, by omega⟩
  unfold evX
  rw [esum_append, esum_zero (n := e) (fun i _ => by rw [h _ (by omega), El.zero_mul]), El.add_zero]
theorem lch_Eval_spec (w : World) (s : Value) (l : List (El 16)) (x : El 16) (h : Sl w s l) (hb : l.length ≤ 70368744175616) :
    CallV Try.prog 26 [s, .int .u16 (x.v.toNat : Int)] w fun v w' => RowKit.Below w.heap.size w w' ∧ ((65536 < l.length ∧ v = .tuple #[.int .u16 0, .int .i64 5]) ∨ (l.length ≤ 65536 ∧ v = .tuple #[.int .u16 ((evX 16 l.length (co l).c x).v.toNat : Int), .int .i64 0])) := by
  refine run_lch_Eval (by simp) ?_
  simp only [c_lch_Eval, WS, List.getElem_cons_zero, List.getElem_cons_succ, Option.isNone_some, Option.isNone_none, List.getD_cons_zero, List.getD_cons_succ, I.at, atL, atO, atP, evp, evs, retV, ↓reduceIte, Nat.reduceEqDiff, reduceCtorEq]
  by_cases h1 : 65536 < l.length
  · simp (maxSteps := 1000000) (disch := omega) only [WS, List.getElem_cons_zero, List.getElem_cons_succ, Option.isNone_some, Option.isNone_none, List.getD_cons_zero, List.getD_cons_succ, I.at, atL, atO, atP, evp, evs, retV, ↓reduceIte, Nat.reduceEqDiff, reduceCtorEq, AS, h.Xlen]
    exact ⟨RowKit.Below.refl _ _, Or.inl (by omega)⟩
  by_cases h0 : l.length = 0
  · have e0 : evX 16 l.length (co l).c x = 0 := by rw [h0]; rfl
    rw [e0]
    simp (maxSteps := 1000000) (disch := omega) only [WS, List.getElem_cons_zero, List.getElem_cons_succ, Option.isNone_some, Option.isNone_none, List.getD_cons_zero, List.getD_cons_succ, I.at, atL, atO, atP, evp, evs, retV, ↓reduceIte, Nat.reduceEqDiff, reduceCtorEq, AS, h.Xlen]
    exact ⟨RowKit.Below.refl _ _, Or.inr ⟨by omega, rfl⟩⟩
  simp (maxSteps := 1000000) (disch := omega) only [WS, List.getElem_cons_zero, List.getElem_cons_succ, Option.isNone_some, Option.isNone_none, List.getD_cons_zero, List.getD_cons_succ, I.at, atL, atO, atP, evp, evs, retV, ↓reduceIte, Nat.reduceEqDiff, reduceCtorEq, AS, h.Xlen]
  refine (Ow.nil w.heap.size w).Xapp h (Nat.le_refl _) (by simp only [List.length_nil, maxBytes]; omega) (by simp only [List.length_nil]; omega) fun sv w1 ov hg hnear => ?_
  rw [List.nil_append] at ov
  have B : RowKit.Below w.heap.size w w1 := (RowKit.Below.refl _ _).grown hg (Nat.le_refl _) fun b hb => by simp [Fw.blk, Value.ownBlock] at hb
  clear hg hnear
  simp (maxSteps := 1000000) (disch := omega) only [WS, List.getElem_cons_zero, List.getElem_cons_succ, Option.isNone_some, Option.isNone_none, List.getD_cons_zero, List.getD_cons_succ, I.at, atL, atO, atP, evp, evs, retV, ↓reduceIte, Nat.reduceEqDiff, reduceCtorEq, AS]
  refine loop_of (fun t w' => RowKit.Below w.heap.size w w' ∧ ∃ (k : Nat) (sv : Value) (m : List (El 16)) (y : El 16), t 1 = .int .u16 (y.v.toNat : Int) ∧ t 6 = sv ∧ Ow w.heap.size w' sv m ∧ 1 ≤ m.length ∧ m.length ≤ 2 ^ k ∧ k ≤ 16 ∧ evX k m.length (co m).c y = evX 16 l.length (co l).c x) (fun t _ => match t 6 with | .slice _ n _ => n | _ => 0)
    ⟨B, 16, sv, l, x, by simp only [WS, List.getElem_cons_zero, List.getElem_cons_succ, Option.isNone_some, Option.isNone_none, List.getD_cons_zero, List.getD_cons_succ, I.at, atL, atO, atP, evp, evs, retV, ↓reduceIte, Nat.reduceEqDiff, reduceCtorEq], by simp only [WS, List.getElem_cons_zero, List.getElem_cons_succ, Option.isNone_some, Option.isNone_none, List.getD_cons_zero, List.getD_cons_succ, I.at, atL, atO, atP, evp, evs, retV, ↓reduceIte, Nat.reduceEqDiff, reduceCtorEq], ov, by omega, by simp; omega, by omega, rfl⟩ ?_
  clear B ov
  rintro t w2 ⟨B, k, sv, m, y, t1, t6, om, hm1, hmk, hk, hev⟩
  by_cases hlt : 1 < m.length
  · obtain ⟨k, rfl⟩ : ∃ j, k = j + 1 := by
      cases k with
      | zero => simp at hmk; omega
      | succ k => exact ⟨k, rfl⟩
    have hk16 := pow_le16' hk
    have hp2 : 2 ^ (k + 1) = 2 * 2 ^ k := by rw [Nat.pow_succ, Nat.mul_comm]
    have hh : ∃ hf, (m.length + 1) / 2 = hf := ⟨_, rfl⟩
    obtain ⟨hf, hh⟩ := hh
    have hf1 : 2 * hf ≤ m.length + 1 := by omega
    have hf2 : m.length ≤ 2 * hf := by omega
    have hfl : hf ≤ m.length := by omega
    have e1 : IntKind.i64.wrap (((m.length + 1 : Nat) : Int).tdiv 2) = (hf : Int) := by rw [show (2 : Int) = ((2 : Nat) : Int) from rfl, tdiv_nat, hh, wrap_64 _ (by omega)]
    have ltake : (m.take hf).length = hf := by rw [List.length_take]; omega
    simp (maxSteps := 1000000) (disch := omega) only [WS, List.getElem_cons_zero, List.getElem_cons_succ, Option.isNone_some, Option.isNone_none, List.getD_cons_zero, List.getD_cons_succ, I.at, atL, atO, atP, evp, evs, retV, ↓reduceIte, Nat.reduceEqDiff, reduceCtorEq, AS, t1, t6, om.sl.Xlen, X_quo, e1, show ((2 : Int) ≠ 0) = True from eq_true (by decide), om.sl.XslcHi hfl, (om.sub0 hfl).sl.Xlen, ltake]
    refine loop_of (fun t w' => t 1 = .int .u16 (y.v.toNat : Int) ∧ t 6 = sv ∧ t 7 = Fw.sub sv 0 hf ∧ t 28 = .int .i64 (hf : Int) ∧ RowKit.Below w.heap.size w w' ∧ ∃ (i : Nat) (m' : List (El 16)), t 29 = .int .i64 (i : Int) ∧ i ≤ hf ∧ Ow w.heap.size w' sv m' ∧ m'.length = m.length ∧ ∀ j, (co m').c j = if j < i then (co m).c (2 * j) + y * (co m).c (2 * j + 1) else (co m).c j)
      (fun t _ => hf - (toI (t 29)).toNat) ⟨by simp only [WS, List.getElem_cons_zero, List.getElem_cons_succ, Option.isNone_some, Option.isNone_none, List.getD_cons_zero, List.getD_cons_succ, I.at, atL, atO, atP, evp, evs, retV, ↓reduceIte, Nat.reduceEqDiff, reduceCtorEq]; exact t1, by simp only [WS, List.getElem_cons_zero, List.getElem_cons_succ, Option.isNone_some, Option.isNone_none, List.getD_cons_zero, List.getD_cons_succ, I.at, atL, atO, atP, evp, evs, retV, ↓reduceIte, Nat.reduceEqDiff, reduceCtorEq]; exact t6, by simp only [WS, List.getElem_cons_zero, List.getElem_cons_succ, Option.isNone_some, Option.isNone_none, List.getD_cons_zero, List.getD_cons_succ, I.at, atL, atO, atP, evp, evs, retV, ↓reduceIte, Nat.reduceEqDiff, reduceCtorEq], by simp only [WS, List.getElem_cons_zero, List.getElem_cons_succ, Option.isNone_some, Option.isNone_none, List.getD_cons_zero, List.getD_cons_succ, I.at, atL, atO, atP, evp, evs, retV, ↓reduceIte, Nat.reduceEqDiff, reduceCtorEq], B, 0, m, rfl, by omega, om, rfl, fun j => by rw [if_neg (by omega)]⟩ ?_
    clear B om t1 t6
    rintro t w3 ⟨t1, t6, t7, t28, B, i, m', t29, hi, om, hml, hco⟩
    by_cases hil : i < hf
    · have i1 : 2 * i < m'.length := by omega
      have i0 : i < m'.length := by omega
      have hel : elP (Fw.sub sv 0 hf) i = elP sv i := by rw [elP_sub om.sl (show 0 < hf by omega) (by omega), Nat.zero_add]
      have hsub := om.sub0 (show hf ≤ m'.length by omega)
      have lt2 : (m'.take hf).length = hf := by rw [List.length_take]; omega
      have hix := hsub.sl.Xix (k := .i64) (i := i) (by omega) Try.prog
      rw [hel] at hix
      have g0 : m'[2 * i] = (co m).c (2 * i) := by
        have := hco (2 * i)
        by_cases hz : i = 0
        · subst hz; rw [if_neg (by omega), co_get m' i1] at this; exact this
        · rw [if_neg (by omega), co_get m' i1] at this; exact this
      by_cases h21 : 2 * i + 1 < m.length
      · have i2 : 2 * i + 1 < m'.length := by omega
        have g1 : m'[2 * i + 1] = (co m).c (2 * i + 1) := by
          have := hco (2 * i + 1)
          rw [if_neg (by omega), co_get m' i2] at this; exact this
        simp (maxSteps := 1000000) (disch := omega) only [WS, List.getElem_cons_zero, List.getElem_cons_succ, Option.isNone_some, Option.isNone_none, List.getD_cons_zero, List.getD_cons_succ, I.at, atL, atO, atP, evp, evs, retV, ↓reduceIte, Nat.reduceEqDiff, reduceCtorEq, AS, t1, t6, t7, t28, t29, om.sl.Xlen, om.sl.Xix i1, om.sl.Xld i1, om.sl.Xix i2, om.sl.Xld i2, cell_e16]
        refine X_call0 ((gf16_Mul_spec w3 y m'[2 * i + 1]).mono ?_)
        rintro _ w4 ⟨rfl, rfl⟩
        simp (maxSteps := 1000000) (disch := omega) only [WS, List.getElem_cons_zero, List.getElem_cons_succ, Option.isNone_some, Option.isNone_none, List.getD_cons_zero, List.getD_cons_succ, I.at, atL, atO, atP, evp, evs, retV, ↓reduceIte, Nat.reduceEqDiff, reduceCtorEq, AS, t1, t6, t7, t28, t29, xor16, hix]
        refine Ow.Xst om i0 (m'[2 * i] + y * m'[2 * i + 1]) fun w5 om5 hg5 => ?_
        simp (maxSteps := 1000000) (disch := omega) only [WS, List.getElem_cons_zero, List.getElem_cons_succ, Option.isNone_some, Option.isNone_none, List.getD_cons_zero, List.getD_cons_succ, I.at, atL, atO, atP, evp, evs, retV, ↓reduceIte, Nat.reduceEqDiff, reduceCtorEq, AS, t1, t6, t7, t28, t29]
        refine ⟨⟨B.grown hg5 B.size fun b hb => (om.blk b hb).1, i + 1, _, rfl, by omega, om5, by simp [hml], fun j => ?_⟩, by omega⟩
        rw [co_set _ i0, hco j, g0, g1]
        by_cases hj : j = i
        · subst hj; rw [if_pos rfl, if_pos (by omega)]
        · rw [if_neg hj]
          by_cases hji : j < i
          · rw [if_pos hji, if_pos (by omega)]
          · rw [if_neg hji, if_neg (by omega)]
      · have z1 : (co m).c (2 * i + 1) = 0 := co_dg m _ (by omega)
        simp (maxSteps := 1000000) (disch := omega) only [WS, List.getElem_cons_zero, List.getElem_cons_succ, Option.isNone_some, Option.isNone_none, List.getD_cons_zero, List.getD_cons_succ, I.at, atL, atO, atP, evp, evs, retV, ↓reduceIte, Nat.reduceEqDiff, reduceCtorEq, AS, t1, t6, t7, t28, t29, om.sl.Xlen, om.sl.Xix i1, om.sl.Xld i1, hix]
        refine Ow.Xst om i0 (m'[2 * i]) fun w5 om5 hg5 => ?_
        simp (maxSteps := 1000000) (disch := omega) only [WS, List.getElem_cons_zero, List.getElem_cons_succ, Option.isNone_some, Option.isNone_none, List.getD_cons_zero, List.getD_cons_succ, I.at, atL, atO, atP, evp, evs, retV, ↓reduceIte, Nat.reduceEqDiff, reduceCtorEq, AS, t1, t6, t7, t28, t29]
        refine ⟨⟨B.grown hg5 B.size fun b hb => (om.blk b hb).1, i + 1, _, rfl, by omega, om5, by simp [hml], fun j => ?_⟩, by omega⟩
        rw [co_set _ i0, hco j, g0]
        by_cases hj : j = i
        · subst hj; rw [if_pos rfl, if_pos (by omega), z1, El.mul_zero, El.add_zero]
        · rw [if_neg hj]
          by_cases hji : j < i
          · rw [if_pos hji, if_pos (by omega)]
          · rw [if_neg hji, if_neg (by omega)]
    · obtain rfl : i = hf := by omega
      have hsub := om.sub0 (show i ≤ m'.length by omega)
      have lt2 : (m'.take i).length = i := by rw [List.length_take]; omega
      simp (maxSteps := 1000000) (disch := omega) only [WS, List.getElem_cons_zero, List.getElem_cons_succ, Option.isNone_some, Option.isNone_none, List.getD_cons_zero, List.getD_cons_succ, I.at, atL, atO, atP, evp, evs, retV, ↓reduceIte, Nat.reduceEqDiff, reduceCtorEq, AS, t1, t6, t7, t28, t29]
      refine X_call0 ((gf16_Mul_spec w3 y y).mono ?_)
      rintro _ w4 ⟨rfl, rfl⟩
      simp (maxSteps := 1000000) (disch := omega) only [WS, List.getElem_cons_zero, List.getElem_cons_succ, Option.isNone_some, Option.isNone_none, List.getD_cons_zero, List.getD_cons_succ, I.at, atL, atO, atP, evp, evs, retV, ↓reduceIte, Nat.reduceEqDiff, reduceCtorEq, AS, t1, t6, t7, t28, t29, xor16]
      refine ⟨⟨B, k, _, m'.take i, y + y * y, rfl, rfl, hsub, by omega, by omega, by omega, ?_⟩, ?_⟩
      · rw [← hev, lt2, show y + y * y = sq1 y from El.add_comm _ _, ← evX_more (n := m.length) (m := 2 * i) (fun j hj => co_dg m j hj) hf2, evX_low]
        exact evX_ext fun j hj => by rw [co_takeL, if_pos hj, hco j, if_pos hj]
      · obtain ⟨a1, c1, e3, -, -⟩ := hsub.sl.sh
        obtain ⟨a2, c2, e4, -, -⟩ := om.sl.sh
        rw [e3, e4]
        show (m'.take i).length < m'.length
        omega
  · have hml : m.length = 1 := by omega
    have h0m : 0 < m.length := by omega
    have hev2 : evX 16 l.length (co l).c x = m[0] := by
      rw [← hev, hml]
      show 0 + (co m).c 0 * xV k 0 y = _
      rw [xV_zero, El.mul_one, El.zero_add, co_get m h0m]
    simp (maxSteps := 1000000) (disch := omega) only [WS, List.getElem_cons_zero, List.getElem_cons_succ, Option.isNone_some, Option.isNone_none, List.getD_cons_zero, List.getD_cons_succ, I.at, atL, atO, atP, evp, evs, retV, ↓reduceIte, Nat.reduceEqDiff, reduceCtorEq, AS, t1, t6, om.sl.Xlen, om.sl.Xix0 h0m, om.sl.Xld h0m, cell_e16, hev2]
    exact ⟨B, Or.inr (by omega)⟩
end Go.Proofs.Ytcnabolainmaeaa.Fw

set_option linter.unusedVariables false
set_option linter.unusedSimpArgs false
set_option maxRecDepth 100000
set_option maxHeartbeats 1000000
namespace Go.Proofs.Ytcnabolainmaeaa.Fw
open Go Go.Fw Go.Proofs
attribute [local irreducible] stepI
def c_lch_Linear : C := .seq (.ops [⟨0, (some 2), none, .mov (.c (.slice none 0 0)), []⟩, ⟨1, (some 3), none, .mov (.c (.int .i64 0)), []⟩]) (.seq (.seq (.ops [⟨0, (some 8), none, .mov (.t 0), []⟩, ⟨1, (some 9), none, .bin .lss (.t 8) (.c (.int .i64 0)), []⟩, ⟨2, (some 10), none, .mov (.t 9), []⟩, ⟨3, (some 11), (some (10, false)), .mov (.t 0), []⟩, ⟨4, (some 12), (some (10, false)), .bin .gtr (.t 11) (.c (.int .i64 16)), []⟩, ⟨5, (some 13), none, .pick (.t 10) (.c (.bool true)) (.t 12), []⟩]) (.ite (.t 13) (.seq (.ops [⟨0, (some 2), none, .mov (.c (.slice none 0 0)), []⟩, ⟨1, (some 3), none, .mov (.c (.int .i64 7)), []⟩]) .ret) .skip)) (.seq (.ops [⟨0, (some 14), none, .bsl 22 1 [.int .u16 0] [(0, (1, .c (.int .u16 1)))], []⟩, ⟨1, (some 4), none, .mov (.t 14), []⟩]) (.seq (.seq (.ops [⟨0, (some 15), none, .mov (.t 0), []⟩, ⟨1, (some 16), none, .mov (.c (.int .i64 0)), []⟩]) (.block 0 (.loop (.seq (.ops [⟨0, (some 17), none, .bin .lss (.t 16) (.t 15), []⟩]) (.seq (.ite (.t 17) .skip (.exit 0)) (.seq (.block 1 (.seq (.ops [⟨0, (some 18), none, .mov (.t 4), []⟩, ⟨1, (some 19), none, .app 22 2 [.int .u16 0] (.c (.slice none 0 0)) (.t 18), []⟩, ⟨2, (some 20), none, .bsl 22 1 [.int .u16 0] [(0, (1, .c (.int .u16 0)))], []⟩, ⟨3, (some 21), none, .app 22 2 [.int .u16 0] (.t 19) (.t 20), []⟩, ⟨4, (some 5), none, .mov (.t 21), []⟩]) (.seq (.seq (.ops [⟨0, (some 22), none, .mov (.t 4), []⟩, ⟨1, (some 23), none, .len (.t 22), []⟩, ⟨2, (some 24), none, .mov (.c (.int .i64 0)), []⟩]) (.block 2 (.loop (.seq (.ops [⟨0, (some 25), none, .bin .lss (.t 24) (.t 23), []⟩]) (.seq (.ite (.t 25) .skip (.exit 2)) (.seq (.block 3 (.seq (.ops [⟨0, (some 26), none, .mov (.t 24), []⟩, ⟨1, (some 27), none, .ixs 1 (.t 22) (.t 24), []⟩, ⟨2, (some 28), none, .ld (.t 27), []⟩, ⟨3, (some 6), none, .mov (.t 26), []⟩, ⟨4, (some 7), none, .mov (.t 28), []⟩]) (.dops [⟨0, (some 29), none, .mov (.t 5), []⟩, ⟨1, (some 30), none, .mov (.t 6), []⟩, ⟨2, (some 31), none, .bin .add (.t 30) (.c (.int .i64 1)), []⟩, ⟨3, (some 32), none, .ixs 1 (.t 29) (.t 31), []⟩, ⟨4, (some 33), none, .ld (.t 32), []⟩, ⟨5, (some 34), none, .mov (.t 7), []⟩, ⟨6, (some 35), none, .mov (.t 7), []⟩, ⟨7, (some 36), none, .call (.c (.func (.func 15) #[] #[])) [.t 34, .t 35], [4]⟩, ⟨8, (some 37), none, .bin .xor (.t 33) (.t 36), []⟩, ⟨9, (some 38), none, .ixs 1 (.t 29) (.t 31), []⟩, ⟨10, none, none, .st (.t 38) (.t 37), []⟩]))) (.ops [⟨0, (some 39), none, .bin .add (.t 24) (.c (.int .i64 1)), []⟩, ⟨1, (some 24), none, .mov (.t 39), []⟩]))))))) (.ops [⟨0, (some 40), none, .mov (.t 5), []⟩, ⟨1, (some 4), none, .mov (.t 40), []⟩])))) (.ops [⟨0, (some 41), none, .bin .add (.t 16) (.c (.int .i64 1)), []⟩, ⟨1, (some 16), none, .mov (.t 41), []⟩]))))))) (.seq (.ops [⟨0, (some 42), none, .mov (.t 4), []⟩, ⟨1, (some 2), none, .mov (.t 42), []⟩, ⟨2, (some 3), none, .mov (.c (.int .i64 0)), []⟩]) .ret))))
attribute [irreducible] c_lch_Linear
theorem run_lch_Linear {args : List Value} {w : World} {K : Value → World → Prop} (hn : args.length ≤ 43) (h : WP Try.prog c_lch_Linear (endQ [.t 2, .t 3] K) (initT args) w) : CallV Try.prog 14 args w K :=
  call_of follows Try.func14 (by kernel_rfl) (by kernel_rfl) hn h
def c_lch_Derivative : C := .seq (.ops [⟨0, (some 2), none, .mov (.c (.slice none 0 0)), []⟩, ⟨1, (some 3), none, .mov (.c (.int .i64 0)), []⟩]) (.seq (.seq (.ops [⟨0, (some 7), none, .mov (.t 0), []⟩, ⟨1, (some 8), none, .len (.t 7), []⟩, ⟨2, (some 9), none, .call (.c (.func (.func 34) #[] #[])) [.t 8, .c (.int .i64 65536)], []⟩, ⟨3, (some 10), none, .un .not (.t 9), []⟩]) (.ite (.t 10) (.seq (.ops [⟨0, (some 2), none, .mov (.c (.slice none 0 0)), []⟩, ⟨1, (some 3), none, .mov (.c (.int .i64 130)), []⟩]) .ret) .skip)) (.seq (.ops [⟨0, (some 11), none, .mov (.t 0), []⟩, ⟨1, (some 12), none, .len (.t 11), []⟩, ⟨2, (some 13), none, .mks 22 2 [.int .u16 0] (.t 12) (.t 12), []⟩, ⟨3, (some 4), none, .mov (.t 13), []⟩]) (.seq (.seq (.ops [⟨0, (some 14), none, .mov (.t 4), []⟩, ⟨1, (some 15), none, .len (.t 14), []⟩, ⟨2, (some 16), none, .mov (.c (.int .i64 0)), []⟩]) (.block 0 (.loop (.seq (.ops [⟨0, (some 17), none, .bin .lss (.t 16) (.t 15), []⟩]) (.seq (.ite (.t 17) .skip (.exit 0)) (.seq (.block 1 (.seq (.ops [⟨0, (some 18), none, .mov (.t 16), []⟩, ⟨1, (some 5), none, .mov (.t 18), []⟩]) (.seq (.ops [⟨0, (some 6), none, .mov (.c (.int .i64 1)), []⟩]) (.block 2 (.loop (.seq (.seq (.ops [⟨0, (some 19), none, .mov (.t 5), []⟩, ⟨1, (some 20), none, .mov (.t 6), []⟩, ⟨2, (some 21), none, .bin .add (.t 19) (.t 20), []⟩, ⟨3, (some 22), none, .mov (.t 0), []⟩, ⟨4, (some 23), none, .len (.t 22), []⟩, ⟨5, (some 24), none, .bin .lss (.t 21) (.t 23), []⟩]) (.ite (.t 24) .skip (.exit 2))) (.seq (.block 3 (.seq (.ops [⟨0, (some 27), none, .mov (.t 5), []⟩, ⟨1, (some 28), none, .mov (.t 6), []⟩, ⟨2, (some 29), none, .bin .and (.t 27) (.t 28), []⟩, ⟨3, (some 30), none, .bin .eql (.t 29) (.c (.int .i64 0)), []⟩]) (.ite (.t 30) (.dops [⟨0, (some 31), none, .mov (.t 4), []⟩, ⟨1, (some 32), none, .mov (.t 5), []⟩, ⟨2, (some 33), none, .ixs 1 (.t 31) (.t 32), []⟩, ⟨3, (some 34), none, .ld (.t 33), []⟩, ⟨4, (some 35), none, .mov (.t 0), []⟩, ⟨5, (some 36), none, .mov (.t 5), []⟩, ⟨6, (some 37), none, .mov (.t 6), []⟩, ⟨7, (some 38), none, .bin .add (.t 36) (.t 37), []⟩, ⟨8, (some 39), none, .ixs 1 (.t 35) (.t 38), []⟩, ⟨9, (some 40), none, .ld (.t 39), []⟩, ⟨10, (some 41), none, .bin .xor (.t 34) (.t 40), []⟩, ⟨11, (some 42), none, .ixs 1 (.t 31) (.t 32), []⟩, ⟨12, none, none, .st (.t 42) (.t 41), []⟩]) .skip))) (.ops [⟨0, (some 25), none, .mov (.t 6), []⟩, ⟨1, (some 26), none, .bin .shl (.t 25) (.c (.int .u64 1)), []⟩, ⟨2, (some 6), none, .mov (.t 26), []⟩])))))))) (.ops [⟨0, (some 43), none, .bin .add (.t 16) (.c (.int .i64 1)), []⟩, ⟨1, (some 16), none, .mov (.t 43), []⟩]))))))) (.seq (.ops [⟨0, (some 44), none, .mov (.t 4), []⟩, ⟨1, (some 2), none, .mov (.t 44), []⟩, ⟨2, (some 3), none, .mov (.c (.int .i64 0)), []⟩]) .ret))))
attribute [irreducible] c_lch_Derivative
theorem run_lch_Derivative {args : List Value} {w : World} {K : Value → World → Prop} (hn : args.length ≤ 45) (h : WP Try.prog c_lch_Derivative (endQ [.t 2, .t 3] K) (initT args) w) : CallV Try.prog 18 args w K :=
  call_of follows Try.func18 (by kernel_rfl) (by kernel_rfl) hn h
def c_lch_power : C := .seq (.ops [⟨0, (some 4), none, .mov (.c (.bool false)), []⟩]) (.seq (.ops [⟨0, (some 5), none, .mov (.t 0), []⟩, ⟨1, (some 6), none, .bin .geq (.t 5) (.c (.int .i64 1)), []⟩, ⟨2, (some 7), none, .mov (.t 6), []⟩, ⟨3, (some 8), (some (7, true)), .mov (.t 0), []⟩, ⟨4, (some 9), (some (7, true)), .mov (.t 1), []⟩, ⟨5, (some 10), (some (7, true)), .bin .leq (.t 8) (.t 9), []⟩, ⟨6, (some 11), none, .pick (.t 7) (.t 10) (.c (.bool false)), []⟩, ⟨7, (some 12), none, .mov (.t 11), []⟩, ⟨8, (some 13), (some (12, true)), .mov (.t 0), []⟩, ⟨9, (some 14), (some (12, true)), .mov (.t 0), []⟩, ⟨10, (some 15), (some (12, true)), .bin .sub (.t 14) (.c (.int .i64 1)), []⟩, ⟨11, (some 16), (some (12, true)), .bin .and (.t 13) (.t 15), []⟩, ⟨12, (some 17), (some (12, true)), .bin .eql (.t 16) (.c (.int .i64 0)), []⟩, ⟨13, (some 18), none, .pick (.t 12) (.t 17) (.c (.bool false)), []⟩, ⟨14, (some 4), none, .mov (.t 18), []⟩]) .ret)
attribute [irreducible] c_lch_power
theorem run_lch_power {args : List Value} {w : World} {K : Value → World → Prop} (hn : args.length ≤ 19) (h : WP Try.prog c_lch_power (endQ [.t 4] K) (initT args) w) : CallV Try.prog 34 args w K :=
  call_of follows Try.func34 (by kernel_rfl) (by kernel_rfl) hn h
end Go.Proofs.Ytcnabolainmaeaa.Fw
namespace Go.Proofs.Ytcnabolainmaeaa.Fw
open Go Go.Fw
theorem lch_Linear_spec (w : World) (i : Int) : CallV Try.prog 14 [.int .i64 i] w fun v w' => RowKit.Below w.heap.size w w' ∧
    ((0 ≤ i ∧ i ≤ 16 ∧ ∃ s m, v = .tuple #[s, .int .i64 0] ∧ Ow w.heap.size w' s m ∧ m.length = i.toNat + 1 ∧ (co m).c = lc i.toNat) ∨ (¬ (0 ≤ i ∧ i ≤ 16) ∧ v = .tuple #[.slice none 0 0, .int .i64 7])) := by
  refine run_lch_Linear (by simp) ?_
  simp only [c_lch_Linear, WS, List.getElem_cons_zero, List.getElem_cons_succ, Option.isNone_some, Option.isNone_none, List.getD_cons_zero, List.getD_cons_succ, I.at, atL, atO, atP, evp, evs, retV, ↓reduceIte, Nat.reduceEqDiff, reduceCtorEq]
  by_cases h0 : i < 0
  · simp (maxSteps := 1000000) (disch := omega) only [WS, List.getElem_cons_zero, List.getElem_cons_succ, Option.isNone_some, Option.isNone_none, List.getD_cons_zero, List.getD_cons_succ, I.at, atL, atO, atP, evp, evs, retV, ↓reduceIte, Nat.reduceEqDiff, reduceCtorEq, AS]
    exact ⟨RowKit.Below.refl _ _, Or.inr (by omega)⟩
  obtain ⟨i, rfl⟩ : ∃ m : Nat, i = (m : Int) := ⟨i.toNat, by omega⟩
  by_cases h1 : 16 < i
  · simp (maxSteps := 1000000) (disch := omega) only [WS, List.getElem_cons_zero, List.getElem_cons_succ, Option.isNone_some, Option.isNone_none, List.getD_cons_zero, List.getD_cons_succ, I.at, atL, atO, atP, evp, evs, retV, ↓reduceIte, Nat.reduceEqDiff, reduceCtorEq, AS]
    exact ⟨RowKit.Below.refl _ _, Or.inr (by omega)⟩
  simp (maxSteps := 1000000) (disch := omega) only [WS, List.getElem_cons_zero, List.getElem_cons_succ, Option.isNone_some, Option.isNone_none, List.getD_cons_zero, List.getD_cons_succ, I.at, atL, atO, atP, evp, evs, retV, ↓reduceIte, Nat.reduceEqDiff, reduceCtorEq, AS]
  refine X_bsl (zs := [(1 : El 16)]) (by rfl) (by rfl) fun sv w1 ov hB => ?_
  have B := hB
  clear hB
  simp (maxSteps := 1000000) (disch := omega) only [WS, List.getElem_cons_zero, List.getElem_cons_succ, Option.isNone_some, Option.isNone_none, List.getD_cons_zero, List.getD_cons_succ, I.at, atL, atO, atP, evp, evs, retV, ↓reduceIte, Nat.reduceEqDiff, reduceCtorEq, AS]
  refine loop_of (fun t w' => t 15 = .int .i64 (i : Int) ∧ RowKit.Below w.heap.size w w' ∧ ∃ (k : Nat) (sv : Value) (m : List (El 16)), t 16 = .int .i64 (k : Int) ∧ k ≤ i ∧ t 4 = sv ∧ Ow w.heap.size w' sv m ∧ m.length = k + 1 ∧ (co m).c = lc k) (fun t _ => i - (toI (t 16)).toNat)
    ⟨by simp only [WS, List.getElem_cons_zero, List.getElem_cons_succ, Option.isNone_some, Option.isNone_none, List.getD_cons_zero, List.getD_cons_succ, I.at, atL, atO, atP, evp, evs, retV, ↓reduceIte, Nat.reduceEqDiff, reduceCtorEq], B, 0, sv, _, rfl, by omega, by simp only [WS, List.getElem_cons_zero, List.getElem_cons_succ, Option.isNone_some, Option.isNone_none, List.getD_cons_zero, List.getD_cons_succ, I.at, atL, atO, atP, evp, evs, retV, ↓reduceIte, Nat.reduceEqDiff, reduceCtorEq], ov, rfl, by funext t; cases t <;> rfl⟩ ?_
  clear B ov
  rintro t w1 ⟨t15, B, k, sv, m, t16, hk, t4, om, ml, mc⟩
  by_cases hlt : k < i
  · have S1 := B.size
    obtain ⟨vb, hvb, hvlt⟩ := om.sl.blk_lt (by rintro rfl; simp at ml)
    simp (maxSteps := 1000000) (disch := omega) only [WS, List.getElem_cons_zero, List.getElem_cons_succ, Option.isNone_some, Option.isNone_none, List.getD_cons_zero, List.getD_cons_succ, I.at, atL, atO, atP, evp, evs, retV, ↓reduceIte, Nat.reduceEqDiff, reduceCtorEq, AS, t15, t4, t16]
    refine (Ow.nil w1.heap.size w1).Xapp om.sl (Nat.le_refl _) (by simp only [List.length_nil, maxBytes]; omega) (by simp only [List.length_nil]; omega) fun s2 w2 o2 hg hnear => ?_
    rw [List.nil_append] at o2
    have hB : RowKit.Below w1.heap.size w1 w2 := (RowKit.Below.refl _ _).grown hg (Nat.le_refl _) fun b hb => by simp [Fw.blk, Value.ownBlock] at hb
    clear hg hnear
    have S2 := hB.size
    have om := om.up hB
    have B := B.trans (hB.mono B.size)
    clear hB
    simp (maxSteps := 1000000) (disch := omega) only [WS, List.getElem_cons_zero, List.getElem_cons_succ, Option.isNone_some, Option.isNone_none, List.getD_cons_zero, List.getD_cons_succ, I.at, atL, atO, atP, evp, evs, retV, ↓reduceIte, Nat.reduceEqDiff, reduceCtorEq, AS, t15, t4, t16]
    refine X_bsl (zs := [(0 : El 16)]) (by rfl) (by rfl) fun z w3 oz hB => ?_
    have S3 := hB.size
    have om := om.up hB
    have o2 := o2.up hB
    have B := B.trans (hB.mono B.size)
    clear hB
    simp (maxSteps := 1000000) (disch := omega) only [WS, List.getElem_cons_zero, List.getElem_cons_succ, Option.isNone_some, Option.isNone_none, List.getD_cons_zero, List.getD_cons_succ, I.at, atL, atO, atP, evp, evs, retV, ↓reduceIte, Nat.reduceEqDiff, reduceCtorEq, AS, t15, t4, t16]
    refine Ow.Xapp o2 oz.sl (by omega) (by simp only [List.length_singleton, maxBytes]; omega) (by simp only [List.length_singleton]; omega) fun q w4 oq hg hn => ?_
    have B := B.grown hg B.size fun b hb => Nat.le_trans S1 (o2.blk b hb).1
    have om := om.grown hg fun e => by rw [hvb] at e; have := o2.blk vb e.symm; omega
    have hq : Fw.blk q ≠ some vb := fun e => by have := oq.blk vb e; omega
    have hql : (m ++ [(0 : El 16)]).length = k + 2 := by simp [ml]
    have hqc : co (m ++ [(0 : El 16)]) = co m := co_append_zeros m 1
    have hqs := fun b hb => Nat.le_trans S1 (oq.blk b hb).1
    generalize m ++ [(0 : El 16)] = ms at oq hql hqc
    have oq := oq.mono S1
    clear hg hn o2 oz S2 S3
    simp (maxSteps := 1000000) (disch := omega) only [WS, List.getElem_cons_zero, List.getElem_cons_succ, Option.isNone_some, Option.isNone_none, List.getD_cons_zero, List.getD_cons_succ, I.at, atL, atO, atP, evp, evs, retV, ↓reduceIte, Nat.reduceEqDiff, reduceCtorEq, AS, t15, t4, t16, om.sl.Xlen, ml]
    refine loop_of (fun t w' => t 15 = .int .i64 (i : Int) ∧ t 4 = sv ∧ t 5 = q ∧ t 16 = .int .i64 (k : Int) ∧ t 22 = sv ∧ t 23 = .int .i64 ((k + 1 : Nat) : Int) ∧ RowKit.Below w.heap.size w w' ∧ Ow w.heap.size w' sv m ∧ ∃ (j : Nat) (ms : List (El 16)), t 24 = .int .i64 (j : Int) ∧ j ≤ k + 1 ∧ Ow w.heap.size w' q ms ∧ ms.length = k + 2 ∧
        ∀ u, (co ms).c u = (co m).c u + (if 1 ≤ u ∧ u ≤ j then (co m).c (u - 1) * (co m).c (u - 1) else 0)) (fun t _ => k + 1 - (toI (t 24)).toNat)
      ⟨by simp only [WS, List.getElem_cons_zero, List.getElem_cons_succ, Option.isNone_some, Option.isNone_none, List.getD_cons_zero, List.getD_cons_succ, I.at, atL, atO, atP, evp, evs, retV, ↓reduceIte, Nat.reduceEqDiff, reduceCtorEq]; exact t15, by simp only [WS, List.getElem_cons_zero, List.getElem_cons_succ, Option.isNone_some, Option.isNone_none, List.getD_cons_zero, List.getD_cons_succ, I.at, atL, atO, atP, evp, evs, retV, ↓reduceIte, Nat.reduceEqDiff, reduceCtorEq]; exact t4, by simp only [WS, List.getElem_cons_zero, List.getElem_cons_succ, Option.isNone_some, Option.isNone_none, List.getD_cons_zero, List.getD_cons_succ, I.at, atL, atO, atP, evp, evs, retV, ↓reduceIte, Nat.reduceEqDiff, reduceCtorEq], by simp only [WS, List.getElem_cons_zero, List.getElem_cons_succ, Option.isNone_some, Option.isNone_none, List.getD_cons_zero, List.getD_cons_succ, I.at, atL, atO, atP, evp, evs, retV, ↓reduceIte, Nat.reduceEqDiff, reduceCtorEq]; exact t16, by simp only [WS, List.getElem_cons_zero, List.getElem_cons_succ, Option.isNone_some, Option.isNone_none, List.getD_cons_zero, List.getD_cons_succ, I.at, atL, atO, atP, evp, evs, retV, ↓reduceIte, Nat.reduceEqDiff, reduceCtorEq], by simp only [WS, List.getElem_cons_zero, List.getElem_cons_succ, Option.isNone_some, Option.isNone_none, List.getD_cons_zero, List.getD_cons_succ, I.at, atL, atO, atP, evp, evs, retV, ↓reduceIte, Nat.reduceEqDiff, reduceCtorEq], B, om, 0, ms, rfl, by omega, oq, hql, fun u => by rw [if_neg (by omega), El.add_zero, hqc]⟩ ?_
    clear B om hqc hql t15 t4 t16
    rintro t w5 ⟨t15, t4, t5, t16, t22, t23, B, om, j, ms, t24, hj, oq, hql, hqc⟩
    by_cases hjl : j < k + 1
    · have jm : j < m.length := by omega
      have j1 : j + 1 < ms.length := by omega
      simp (maxSteps := 1000000) (disch := omega) only [WS, List.getElem_cons_zero, List.getElem_cons_succ, Option.isNone_some, Option.isNone_none, List.getD_cons_zero, List.getD_cons_succ, I.at, atL, atO, atP, evp, evs, retV, ↓reduceIte, Nat.reduceEqDiff, reduceCtorEq, AS, t15, t4, t5, t16, t22, t23, t24, om.sl.Xix jm, om.sl.Xld jm, cell_e16]
      refine WP_dops ?_
      have hqd := oq.sl.drew
      have see : Fw.sees Try.prog (.ld (.c (elP q (j + 1)))) w5.drew (.int .u16 (ms[j + 1].v.toNat : Int)) = True := hqd.sees j1 Try.prog
      simp (maxSteps := 1000000) (disch := omega) only [ES, List.mem_cons, List.not_mem_nil, implies_true, forall_const, WS, List.getElem_cons_zero, List.getElem_cons_succ, Option.isNone_some, Option.isNone_none, List.getD_cons_zero, List.getD_cons_succ, I.at, atL, atO, atP, evp, evs, retV, ↓reduceIte, Nat.reduceEqDiff, reduceCtorEq, AS, t15, t4, t5, t16, t22, t23, t24, hqd.Eix j1, hqd.Eld j1, cell_e16]
      refine E_call0 ((gf16_Mul_spec w5.drew m[j] m[j]).mono ?_)
      rintro _ w6 ⟨rfl, rfl⟩
      simp (maxSteps := 1000000) (disch := omega) only [ES, List.mem_cons, List.not_mem_nil, implies_true, forall_const, WS, List.getElem_cons_zero, List.getElem_cons_succ, Option.isNone_some, Option.isNone_none, List.getD_cons_zero, List.getD_cons_succ, I.at, atL, atO, atP, evp, evs, retV, ↓reduceIte, Nat.reduceEqDiff, reduceCtorEq, AS, see, xor16, hqd.Eix j1]
      refine Ow.Est oq.drew j1 (ms[j + 1] + m[j] * m[j]) fun w7 oq7 hg7 => ?_
      simp (maxSteps := 1000000) (disch := omega) only [ES, List.mem_cons, List.not_mem_nil, implies_true, forall_const, WS, List.getElem_cons_zero, List.getElem_cons_succ, Option.isNone_some, Option.isNone_none, List.getD_cons_zero, List.getD_cons_succ, I.at, atL, atO, atP, evp, evs, retV, ↓reduceIte, Nat.reduceEqDiff, reduceCtorEq, AS, t15, t4, t5, t16, t22, t23, t24]
      refine ⟨⟨B.grown (grown_of_drew hg7) B.size fun b hb => (oq.blk b hb).1, om.grown (grown_of_drew hg7) (by rw [hvb]; exact fun e => hq e.symm), j + 1, _, rfl, by omega, oq7, by simp [hql], fun u => ?_⟩, by omega⟩
      rw [co_set _ j1, hqc u]
      by_cases hu : u = j + 1
      · subst hu
        rw [if_pos rfl, if_pos ⟨by omega, by omega⟩, ← co_get ms j1, hqc (j + 1), if_neg (by omega), El.add_zero, Nat.add_sub_cancel, co_get m jm]
      · rw [if_neg hu]
        congr 1
        by_cases hc : 1 ≤ u ∧ u ≤ j
        · rw [if_pos hc, if_pos ⟨hc.1, by omega⟩]
        · rw [if_neg hc, if_neg (by omega)]
    · obtain rfl : j = k + 1 := by omega
      simp (maxSteps := 1000000) (disch := omega) only [WS, List.getElem_cons_zero, List.getElem_cons_succ, Option.isNone_some, Option.isNone_none, List.getD_cons_zero, List.getD_cons_succ, I.at, atL, atO, atP, evp, evs, retV, ↓reduceIte, Nat.reduceEqDiff, reduceCtorEq, AS, t15, t4, t5, t16, t22, t23, t24]
      refine ⟨⟨B, k + 1, q, ms, rfl, by omega, rfl, oq, by omega, ?_⟩, by omega⟩
      funext u
      rw [hqc u]
      show _ = lc k u + (match u with | 0 => 0 | t + 1 => lc k t * lc k t)
      rw [← mc]
      cases u with
      | zero => rfl
      | succ u =>
        dsimp only
        by_cases hu : u + 1 ≤ k + 1
        · rw [if_pos ⟨by omega, hu⟩, Nat.add_sub_cancel]
        · rw [if_neg (by omega), co_dg m u (by omega), El.mul_zero]
  · obtain rfl : k = i := by omega
    simp (maxSteps := 1000000) (disch := omega) only [WS, List.getElem_cons_zero, List.getElem_cons_succ, Option.isNone_some, Option.isNone_none, List.getD_cons_zero, List.getD_cons_succ, I.at, atL, atO, atP, evp, evs, retV, ↓reduceIte, Nat.reduceEqDiff, reduceCtorEq, AS, t15, t4, t16]
    exact ⟨B, Or.inl ⟨by omega, by omega, sv, m, rfl, om, by rw [Int.toNat_natCast]; exact ml, by rw [Int.toNat_natCast]; exact mc⟩⟩
theorem lch_power_spec (w : World) (n m : Nat) (hn : n < 4611686018427387904) (hm : m < 4611686018427387904) : CallV Try.prog 34 [.int .i64 (n : Int), .int .i64 (m : Int)] w fun v w' => v = .bool (decide (1 ≤ n ∧ n ≤ m ∧ n &&& (n - 1) = 0)) ∧ w' = w := by
  refine run_lch_power (by simp) ?_
  simp only [c_lch_power, WS, List.getElem_cons_zero, List.getElem_cons_succ, Option.isNone_some, Option.isNone_none, List.getD_cons_zero, List.getD_cons_succ, I.at, atL, atO, atP, evp, evs, retV, ↓reduceIte, Nat.reduceEqDiff, reduceCtorEq]
  by_cases h1 : 1 ≤ n
  · by_cases h2 : n ≤ m
    · have e : decide (((n &&& (n - 1) : Nat) : Int) = 0) = decide (1 ≤ n ∧ n ≤ m ∧ n &&& (n - 1) = 0) :=
        decide_eq_decide.2 ⟨fun h => ⟨h1, h2, by omega⟩, fun h => by omega⟩
      rw [← e]
      simp (maxSteps := 1000000) (disch := omega) only [WS, List.getElem_cons_zero, List.getElem_cons_succ, Option.isNone_some, Option.isNone_none, List.getD_cons_zero, List.getD_cons_succ, I.at, atL, atO, atP, evp, evs, retV, ↓reduceIte, Nat.reduceEqDiff, reduceCtorEq, AS, bits_and fits_i64 (a := n) (b := n - 1) (by omega) (by omega)]
    · simp (maxSteps := 1000000) (disch := omega) only [WS, List.getElem_cons_zero, List.getElem_cons_succ, Option.isNone_some, Option.isNone_none, List.getD_cons_zero, List.getD_cons_succ, I.at, atL, atO, atP, evp, evs, retV, ↓reduceIte, Nat.reduceEqDiff, reduceCtorEq, AS]
  · simp (maxSteps := 1000000) (disch := omega) only [WS, List.getElem_cons_zero, List.getElem_cons_succ, Option.isNone_some, Option.isNone_none, List.getD_cons_zero, List.getD_cons_succ, I.at, atL, atO, atP, evp, evs, retV, ↓reduceIte, Nat.reduceEqDiff, reduceCtorEq, AS]
theorem lch_Derivative_spec (w : World) (s : Value) (l : List (El 16)) (h : Sl w s l) (hb : l.length ≤ 70368744175616) : CallV Try.prog 18 [s] w fun v w' => RowKit.Below w.heap.size w w' ∧
    ((∃ k, k ≤ 16 ∧ l.length = 2 ^ k ∧ ∃ sv m, v = .tuple #[sv, .int .i64 0] ∧ Ow w.heap.size w' sv m ∧ m.length = 2 ^ k ∧ ∀ j, j < 2 ^ k → (co m).c j = dX k (co l).c j) ∨ (¬ (1 ≤ l.length ∧ l.length ≤ 65536 ∧ l.length &&& (l.length - 1) = 0) ∧ v = .tuple #[.slice none 0 0, .int .i64 130])) := by
  refine run_lch_Derivative (by simp) ?_
  simp only [c_lch_Derivative, WS, List.getElem_cons_zero, List.getElem_cons_succ, Option.isNone_some, Option.isNone_none, List.getD_cons_zero, List.getD_cons_succ, I.at, atL, atO, atP, evp, evs, retV, ↓reduceIte, Nat.reduceEqDiff, reduceCtorEq, h.Xlen]
  refine X_call0 ((lch_power_spec w l.length 65536 (by omega) (by omega)).mono ?_)
  rintro _ w ⟨rfl, rfl⟩
  by_cases hp : 1 ≤ l.length ∧ l.length ≤ 65536 ∧ l.length &&& (l.length - 1) = 0
  rotate_left
  · simp (maxSteps := 1000000) (disch := omega) only [WS, List.getElem_cons_zero, List.getElem_cons_succ, Option.isNone_some, Option.isNone_none, List.getD_cons_zero, List.getD_cons_succ, I.at, atL, atO, atP, evp, evs, retV, ↓reduceIte, Nat.reduceEqDiff, reduceCtorEq, AS]
    exact ⟨RowKit.Below.refl _ _, Or.inr hp⟩
  obtain ⟨k, hlk⟩ := pow_of_and _ l.length (Nat.le_refl _) (by omega) hp.2.2
  have hk : k ≤ 16 := by
    rcases Nat.lt_or_ge 16 k with hlt | hge
    · have := Nat.pow_le_pow_right (show 0 < 2 by omega) hlt
      omega
    · exact hge
  have hk16 := pow_le16' hk
  have hd : decide (1 ≤ l.length ∧ l.length ≤ 65536 ∧ l.length &&& (l.length - 1) = 0) = true := decide_eq_true hp
  clear hp
  rw [hlk] at hd
  have h0 := Nat.two_pow_pos k
  have hbig : 2 * 2 ^ k ≤ maxBytes := by simp only [maxBytes]; omega
  have hbig2 : 2 ^ k < 9223372036854775808 := by omega
  simp (maxSteps := 1000000) (disch := omega) only [WS, List.getElem_cons_zero, List.getElem_cons_succ, Option.isNone_some, Option.isNone_none, List.getD_cons_zero, List.getD_cons_succ, I.at, atL, atO, atP, evp, evs, retV, ↓reduceIte, Nat.reduceEqDiff, reduceCtorEq, AS, hd, h.Xlen, hlk]
  refine X_mks (x := (0 : El 16)) hbig hbig2 fun sv w1 ov hB => ?_
  have B := hB
  clear hB
  simp (maxSteps := 1000000) (disch := omega) only [WS, List.getElem_cons_zero, List.getElem_cons_succ, Option.isNone_some, Option.isNone_none, List.getD_cons_zero, List.getD_cons_succ, I.at, atL, atO, atP, evp, evs, retV, ↓reduceIte, Nat.reduceEqDiff, reduceCtorEq, AS, ov.sl.Xlen, List.length_replicate]
  refine loop_of (fun t w' => t 0 = s ∧ t 4 = sv ∧ t 15 = .int .i64 ((2 ^ k : Nat) : Int) ∧ RowKit.Below w.heap.size w w' ∧ ∃ (j : Nat) (m : List (El 16)), t 16 = .int .i64 (j : Int) ∧ j ≤ 2 ^ k ∧ Ow w.heap.size w' sv m ∧ m.length = 2 ^ k ∧ ∀ u, (co m).c u = if u < j then dX k (co l).c u else 0)
    (fun t _ => 2 ^ k - (toI (t 16)).toNat) ⟨by simp only [WS, List.getElem_cons_zero, List.getElem_cons_succ, Option.isNone_some, Option.isNone_none, List.getD_cons_zero, List.getD_cons_succ, I.at, atL, atO, atP, evp, evs, retV, ↓reduceIte, Nat.reduceEqDiff, reduceCtorEq], by simp only [WS, List.getElem_cons_zero, List.getElem_cons_succ, Option.isNone_some, Option.isNone_none, List.getD_cons_zero, List.getD_cons_succ, I.at, atL, atO, atP, evp, evs, retV, ↓reduceIte, Nat.reduceEqDiff, reduceCtorEq], by simp only [WS, List.getElem_cons_zero, List.getElem_cons_succ, Option.isNone_some, Option.isNone_none, List.getD_cons_zero, List.getD_cons_succ, I.at, atL, atO, atP, evp, evs, retV, ↓reduceIte, Nat.reduceEqDiff, reduceCtorEq], B, 0, _, rfl, by omega, ov, List.length_replicate .., fun u => by rw [co_replicate, if_neg (by omega)]; rfl⟩ ?_
  clear B ov
  rintro t w2 ⟨t0, t4, t15, B, j, m, t16, hj, ov, ml, mc⟩
  by_cases hjk : j < 2 ^ k
  · simp (maxSteps := 1000000) (disch := omega) only [WS, List.getElem_cons_zero, List.getElem_cons_succ, Option.isNone_some, Option.isNone_none, List.getD_cons_zero, List.getD_cons_succ, I.at, atL, atO, atP, evp, evs, retV, ↓reduceIte, Nat.reduceEqDiff, reduceCtorEq, AS, t0, t4, t15, t16]
    refine loop_of (fun t w' => t 0 = s ∧ t 4 = sv ∧ t 5 = .int .i64 (j : Int) ∧ t 15 = .int .i64 ((2 ^ k : Nat) : Int) ∧ t 16 = .int .i64 (j : Int) ∧ RowKit.Below w.heap.size w w' ∧ ∃ (i : Nat) (m : List (El 16)), t 6 = .int .i64 ((2 ^ i : Nat) : Int) ∧ i ≤ k ∧ Ow w.heap.size w' sv m ∧ m.length = 2 ^ k ∧ ∀ u, (co m).c u = if u < j then dX k (co l).c u else if u = j then esum i (fun i => if j.testBit i then 0 else (co l).c (j + 2 ^ i)) else 0)
      (fun t _ => 2 ^ k - (toI (t 6)).toNat) ⟨by simp only [WS, List.getElem_cons_zero, List.getElem_cons_succ, Option.isNone_some, Option.isNone_none, List.getD_cons_zero, List.getD_cons_succ, I.at, atL, atO, atP, evp, evs, retV, ↓reduceIte, Nat.reduceEqDiff, reduceCtorEq]; exact t0, by simp only [WS, List.getElem_cons_zero, List.getElem_cons_succ, Option.isNone_some, Option.isNone_none, List.getD_cons_zero, List.getD_cons_succ, I.at, atL, atO, atP, evp, evs, retV, ↓reduceIte, Nat.reduceEqDiff, reduceCtorEq]; exact t4, by simp only [WS, List.getElem_cons_zero, List.getElem_cons_succ, Option.isNone_some, Option.isNone_none, List.getD_cons_zero, List.getD_cons_succ, I.at, atL, atO, atP, evp, evs, retV, ↓reduceIte, Nat.reduceEqDiff, reduceCtorEq], by simp only [WS, List.getElem_cons_zero, List.getElem_cons_succ, Option.isNone_some, Option.isNone_none, List.getD_cons_zero, List.getD_cons_succ, I.at, atL, atO, atP, evp, evs, retV, ↓reduceIte, Nat.reduceEqDiff, reduceCtorEq]; exact t15, by simp only [WS, List.getElem_cons_zero, List.getElem_cons_succ, Option.isNone_some, Option.isNone_none, List.getD_cons_zero, List.getD_cons_succ, I.at, atL, atO, atP, evp, evs, retV, ↓reduceIte, Nat.reduceEqDiff, reduceCtorEq]; exact t16, B, 0, m, rfl, by omega, ov, ml, fun u => by
        rw [mc u]
        by_cases hu : u < j
        · rw [if_pos hu, if_pos hu]
        · rw [if_neg hu, if_neg hu]; split <;> rfl⟩ ?_
    clear t0 t4 t15 t16 B ov ml mc
    rintro t w3 ⟨t0, t4, t5, t15, t16, B, i, m, t6, hi, ov, ml, mc⟩
    have hi0 := Nat.two_pow_pos i
    have hi16 := pow_le16' (Nat.le_trans hi hk)
    by_cases hji : j + 2 ^ i < 2 ^ k
    · have hik : i < k := by
        rcases Nat.lt_or_ge i k with h1 | h1
        · exact h1
        · have := Nat.pow_le_pow_right (show 0 < 2 by omega) h1
          omega
      have e1 : bitsOp .and .i64 (j : Int) ((2 ^ i : Nat) : Int) = ((j &&& 2 ^ i : Nat) : Int) := bits_and fits_i64 (by omega) (by omega)
      rw [and_pow] at e1
      have e2 : shlV .i64 ((2 ^ i : Nat) : Int) 1 = ((2 ^ (i + 1) : Nat) : Int) := by
        have := shl_nat fits_i64 (2 ^ i) 1 (by decide) (by omega)
        rw [Nat.shiftLeft_eq, ← Nat.pow_add] at this
        exact this
      have hp1 : 2 ^ (i + 1) = 2 * 2 ^ i := by rw [Nat.pow_succ, Nat.mul_comm]
      have jm : j < m.length := by omega
      have jl : j + 2 ^ i < l.length := by omega
      have hsum : ∀ x : El 16, (if j.testBit i then 0 else (co l).c (j + 2 ^ i)) = x → esum (i + 1) (fun i => if j.testBit i then 0 else (co l).c (j + 2 ^ i)) = esum i (fun i => if j.testBit i then 0 else (co l).c (j + 2 ^ i)) + x := fun x hx => by rw [← hx]; rfl
      by_cases hbit : j.testBit i = true
      · rw [if_pos hbit] at e1
        simp (maxSteps := 1000000) (disch := omega) only [WS, List.getElem_cons_zero, List.getElem_cons_succ, Option.isNone_some, Option.isNone_none, List.getD_cons_zero, List.getD_cons_succ, I.at, atL, atO, atP, evp, evs, retV, ↓reduceIte, Nat.reduceEqDiff, reduceCtorEq, AS, t0, t4, t5, t6, t15, t16, (h.up B).Xlen, hlk, e1, X_shl, e2, show ((0 : Int) ≤ 1) = True from eq_true (by decide)]
        refine ⟨⟨B, i + 1, m, rfl, by omega, ov, ml, fun u => ?_⟩, by omega⟩
        rw [mc u, hsum 0 (by rw [if_pos hbit]), El.add_zero]
      · have hbit' : j.testBit i = false := by simpa using hbit
        rw [if_neg hbit] at e1
        simp (maxSteps := 1000000) (disch := omega) only [WS, List.getElem_cons_zero, List.getElem_cons_succ, Option.isNone_some, Option.isNone_none, List.getD_cons_zero, List.getD_cons_succ, I.at, atL, atO, atP, evp, evs, retV, ↓reduceIte, Nat.reduceEqDiff, reduceCtorEq, AS, t0, t4, t5, t6, t15, t16, (h.up B).Xlen, hlk, e1, show decide (((0 : Nat) : Int) = 0) = true from rfl]
        refine WP_dops ?_
        have hsd := (h.up B).drew
        have hvd := ov.sl.drew
        simp (maxSteps := 1000000) (disch := omega) only [ES, List.mem_cons, List.not_mem_nil, implies_true, forall_const, WS, List.getElem_cons_zero, List.getElem_cons_succ, Option.isNone_some, Option.isNone_none, List.getD_cons_zero, List.getD_cons_succ, I.at, atL, atO, atP, evp, evs, retV, ↓reduceIte, Nat.reduceEqDiff, reduceCtorEq, AS, t0, t4, t5, t6, t15, t16, hvd.Eix jm, hvd.Eld jm, hsd.Eix jl, hsd.Eld jl, cell_e16, xor16]
        refine Ow.Est ov.drew jm (m[j] + l[j + 2 ^ i]) fun w7 ov7 hg7 => ?_
        simp (maxSteps := 1000000) (disch := omega) only [ES, List.mem_cons, List.not_mem_nil, implies_true, forall_const, WS, List.getElem_cons_zero, List.getElem_cons_succ, Option.isNone_some, Option.isNone_none, List.getD_cons_zero, List.getD_cons_succ, I.at, atL, atO, atP, evp, evs, retV, ↓reduceIte, Nat.reduceEqDiff, reduceCtorEq, AS, t0, t4, t5, t6, t15, t16]
        simp (maxSteps := 1000000) (disch := omega) only [WS, List.getElem_cons_zero, List.getElem_cons_succ, Option.isNone_some, Option.isNone_none, List.getD_cons_zero, List.getD_cons_succ, I.at, atL, atO, atP, evp, evs, retV, ↓reduceIte, Nat.reduceEqDiff, reduceCtorEq, AS, t0, t4, t5, t6, t15, t16, X_shl, e2, show ((0 : Int) ≤ 1) = True from eq_true (by decide)]
        refine ⟨⟨B.grown (grown_of_drew hg7) B.size fun b hb => (ov.blk b hb).1, i + 1, _, rfl, by omega, ov7, by simp [ml], fun u => ?_⟩, by omega⟩
        rw [co_set _ jm, hsum _ (if_neg hbit), ← co_get m jm, ← co_get l jl, mc u, mc j]
        by_cases hu : u = j
        · subst hu
          rw [if_pos rfl, if_neg (by omega), if_pos rfl, if_neg (by omega), if_pos rfl]
        · rw [if_neg hu, if_neg hu, if_neg hu]
    · have hst := dX_stop (co l).c hjk hi (by omega)
      simp (maxSteps := 1000000) (disch := omega) only [WS, List.getElem_cons_zero, List.getElem_cons_succ, Option.isNone_some, Option.isNone_none, List.getD_cons_zero, List.getD_cons_succ, I.at, atL, atO, atP, evp, evs, retV, ↓reduceIte, Nat.reduceEqDiff, reduceCtorEq, AS, t0, t4, t5, t6, t15, t16, (h.up B).Xlen, hlk]
      refine ⟨⟨B, j + 1, m, rfl, by omega, ov, ml, fun u => ?_⟩, by omega⟩
      rw [mc u, hst]
      by_cases hu : u < j
      · rw [if_pos hu, if_pos (by omega)]
      · rw [if_neg hu]
        by_cases hu2 : u = j
        · subst hu2; rw [if_pos rfl, if_pos (by omega)]
        · rw [if_neg hu2, if_neg (by omega)]
  · obtain rfl : j = 2 ^ k := by omega
    simp (maxSteps := 1000000) (disch := omega) only [WS, List.getElem_cons_zero, List.getElem_cons_succ, Option.isNone_some, Option.isNone_none, List.getD_cons_zero, List.getD_cons_succ, I.at, atL, atO, atP, evp, evs, retV, ↓reduceIte, Nat.reduceEqDiff, reduceCtorEq, AS, t0, t4, t15, t16]
    exact ⟨B, Or.inl ⟨k, hk, rfl, sv, m, rfl, ov, ml, fun j hj => by rw [mc j, if_pos hj]⟩⟩
end Go.Proofs.Ytcnabolainmaeaa.Fw
