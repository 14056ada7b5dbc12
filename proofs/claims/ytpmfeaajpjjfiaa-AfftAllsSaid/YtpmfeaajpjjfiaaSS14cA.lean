import Derived.Test.YtpmfeaajpjjfiaaProg
import Derived.Test.YtpmfeaajpjjfiaaFwTA
import Derived.Test.YtpmfeaajpjjfiaaSS14rA
import Derived.Test.YtpmfeaajpjjfiaaGfLA
set_option linter.all false
set_option linter.unusedVariables false
set_option linter.unusedSimpArgs false
set_option maxRecDepth 100000
set_option maxHeartbeats 1000000
namespace Go.Proofs.Ytpmfeaajpjjfiaa.Fw
open Go Go.Fw Go.Proofs
attribute [local irreducible] stepI
def c_gf16_Element : C := .seq (.ops [⟨0, (some 2), none, .mov (.c (.int .u16 0)), []⟩, ⟨1, (some 3), none, .mov (.c (.int .i64 0)), []⟩]) (.seq (.seq (.ops [⟨0, (some 4), none, .mov (.t 0), []⟩, ⟨1, (some 5), none, .bin .lss (.t 4) (.c (.int .i64 0)), []⟩, ⟨2, (some 6), none, .mov (.t 5), []⟩, ⟨3, (some 7), (some (6, false)), .mov (.t 0), []⟩, ⟨4, (some 8), (some (6, false)), .bin .gtr (.t 7) (.c (.int .i64 65535)), []⟩, ⟨5, (some 9), none, .pick (.t 6) (.c (.bool true)) (.t 8), []⟩]) (.ite (.t 9) (.seq (.ops [⟨0, (some 2), none, .mov (.c (.int .u16 0)), []⟩, ⟨1, (some 3), none, .mov (.c (.int .i64 31)), []⟩]) .ret) .skip)) (.seq (.ops [⟨0, (some 10), none, .mov (.t 0), []⟩, ⟨1, (some 11), none, .call (.c (.func (.func 43) #[] #[])) [.t 10], []⟩, ⟨2, (some 2), none, .mov (.t 11), []⟩, ⟨3, (some 3), none, .mov (.c (.int .i64 0)), []⟩]) .ret))
attribute [irreducible] c_gf16_Element
theorem run_gf16_Element {args : List Value} {w : World} {K : Value → World → Prop} (hn : args.length ≤ 12) (h : WP Try.prog c_gf16_Element (endQ [.t 2, .t 3] K) (initT args) w) : CallV Try.prog 27 args w K :=
  call_of follows Try.func27 (by kernel_rfl) (by kernel_rfl) hn h
def c_gf16_element : C := .seq (.ops [⟨0, (some 2), none, .mov (.c (.int .u16 0)), []⟩]) (.seq (.ops [⟨0, (some 3), none, .mov (.c (.int .u16 0)), []⟩]) (.seq (.seq (.ops [⟨0, (some 6), none, .call (.c (.func (.func 60) #[] #[])) [], []⟩, ⟨1, (some 7), none, .mov (.c (.int .i64 0)), []⟩]) (.block 0 (.loop (.seq (.ops [⟨0, (some 8), none, .bin .lss (.t 7) (.c (.int .i64 16)), []⟩]) (.seq (.ite (.t 8) .skip (.exit 0)) (.seq (.block 1 (.seq (.ops [⟨0, (some 9), none, .mov (.t 7), []⟩, ⟨1, (some 10), none, .ixv 16 (.t 6) (.t 7), []⟩, ⟨2, (some 4), none, .mov (.t 9), []⟩, ⟨3, (some 5), none, .mov (.t 10), []⟩]) (.seq (.ops [⟨0, (some 11), none, .mov (.t 0), []⟩, ⟨1, (some 12), none, .mov (.t 4), []⟩, ⟨2, (some 13), none, .bin .shr (.t 11) (.t 12), []⟩, ⟨3, (some 14), none, .bin .and (.t 13) (.c (.int .i64 1)), []⟩, ⟨4, (some 15), none, .bin .eql (.t 14) (.c (.int .i64 1)), []⟩]) (.ite (.t 15) (.ops [⟨0, (some 16), none, .mov (.t 3), []⟩, ⟨1, (some 17), none, .mov (.t 5), []⟩, ⟨2, (some 18), none, .bin .xor (.t 16) (.t 17), []⟩, ⟨3, (some 3), none, .mov (.t 18), []⟩]) .skip)))) (.ops [⟨0, (some 19), none, .bin .add (.t 7) (.c (.int .i64 1)), []⟩, ⟨1, (some 7), none, .mov (.t 19), []⟩]))))))) (.seq (.ops [⟨0, (some 20), none, .mov (.t 3), []⟩, ⟨1, (some 2), none, .mov (.t 20), []⟩]) .ret)))
attribute [irreducible] c_gf16_element
theorem run_gf16_element {args : List Value} {w : World} {K : Value → World → Prop} (hn : args.length ≤ 21) (h : WP Try.prog c_gf16_element (endQ [.t 2] K) (initT args) w) : CallV Try.prog 43 args w K :=
  call_of follows Try.func43 (by kernel_rfl) (by kernel_rfl) hn h
def c_lch_Skew : C := .seq (.ops [⟨0, (some 4), none, .mov (.c (.int .u16 0)), []⟩, ⟨1, (some 5), none, .mov (.c (.int .i64 0)), []⟩]) (.seq (.seq (.ops [⟨0, (some 8), none, .mov (.t 0), []⟩, ⟨1, (some 9), none, .bin .lss (.t 8) (.c (.int .i64 0)), []⟩, ⟨2, (some 10), none, .mov (.t 9), []⟩, ⟨3, (some 11), (some (10, false)), .mov (.t 0), []⟩, ⟨4, (some 12), (some (10, false)), .bin .gtr (.t 11) (.c (.int .i64 16)), []⟩, ⟨5, (some 13), none, .pick (.t 10) (.c (.bool true)) (.t 12), []⟩]) (.ite (.t 13) (.seq (.ops [⟨0, (some 4), none, .mov (.c (.int .u16 0)), []⟩, ⟨1, (some 5), none, .mov (.c (.int .i64 7)), []⟩]) .ret) .skip)) (.seq (.seq (.ops [⟨0, (some 14), none, .mov (.t 1), []⟩, ⟨1, (some 15), none, .bin .lss (.t 14) (.c (.int .i64 0)), []⟩, ⟨2, (some 16), none, .mov (.t 15), []⟩, ⟨3, (some 17), (some (16, false)), .mov (.t 1), []⟩, ⟨4, (some 18), (some (16, false)), .bin .gtr (.t 17) (.c (.int .i64 65535)), []⟩, ⟨5, (some 19), none, .pick (.t 16) (.c (.bool true)) (.t 18), []⟩]) (.ite (.t 19) (.seq (.ops [⟨0, (some 4), none, .mov (.c (.int .u16 0)), []⟩, ⟨1, (some 5), none, .mov (.c (.int .i64 31)), []⟩]) .ret) .skip)) (.seq (.ops [⟨0, (some 21), none, .mov (.t 1), []⟩, ⟨1, (some 22), none, .mov (.t 0), []⟩, ⟨2, (some 23), none, .bin .shr (.t 21) (.t 22), []⟩, ⟨3, (some 24), none, .call (.c (.func (.func 27) #[] #[])) [.t 23], []⟩, ⟨4, (some 20), none, .mov (.t 24), []⟩, ⟨5, (some 25), none, .ext (.t 20) 0, []⟩, ⟨6, (some 26), none, .ext (.t 20) 1, []⟩, ⟨7, (some 6), none, .mov (.t 25), []⟩, ⟨8, (some 7), none, .mov (.t 26), []⟩]) (.seq (.ops [⟨0, (some 27), none, .mov (.t 6), []⟩, ⟨1, (some 28), none, .mov (.t 7), []⟩, ⟨2, (some 4), none, .mov (.t 27), []⟩, ⟨3, (some 5), none, .mov (.t 28), []⟩]) .ret))))
attribute [irreducible] c_lch_Skew
theorem run_lch_Skew {args : List Value} {w : World} {K : Value → World → Prop} (hn : args.length ≤ 29) (h : WP Try.prog c_lch_Skew (endQ [.t 4, .t 5] K) (initT args) w) : CallV Try.prog 52 args w K :=
  call_of follows Try.func52 (by kernel_rfl) (by kernel_rfl) hn h
def c_gf16_basis : C := .seq (.ops [⟨0, (some 0), none, .alloc 79 (List.replicate 16 (.int .u16 0)), []⟩]) (.seq (.ops [⟨0, (some 1), none, .bld (List.replicate 16 (.int .u16 0)) [(0, (1, .c (.int .u16 1))), (1, (1, .c (.int .u16 44234))), (2, (1, .c (.int .u16 15374))), (3, (1, .c (.int .u16 5694))), (4, (1, .c (.int .u16 50562))), (5, (1, .c (.int .u16 60718))), (6, (1, .c (.int .u16 37196))), (7, (1, .c (.int .u16 16402))), (8, (1, .c (.int .u16 27800))), (9, (1, .c (.int .u16 4312))), (10, (1, .c (.int .u16 27250))), (11, (1, .c (.int .u16 47360))), (12, (1, .c (.int .u16 64952))), (13, (1, .c (.int .u16 64308))), (14, (1, .c (.int .u16 65336))), (15, (1, .c (.int .u16 39198)))], []⟩, ⟨1, none, none, .stn 16 (.t 0) (.t 1), []⟩]) .ret)
attribute [irreducible] c_gf16_basis
theorem run_gf16_basis {args : List Value} {w : World} {K : Value → World → Prop} (hn : args.length ≤ 2) (h : WP Try.prog c_gf16_basis (endQ [.cn 0 16] K) (initT args) w) : CallV Try.prog 60 args w K :=
  call_of follows Try.func60 (by kernel_rfl) (by kernel_rfl) hn h
end Go.Proofs.Ytpmfeaajpjjfiaa.Fw
namespace Go.Proofs.Ytpmfeaajpjjfiaa.Fw
open Go Go.Fw
def basV : List Value := [.int .u16 1, .int .u16 44234, .int .u16 15374, .int .u16 5694, .int .u16 50562, .int .u16 60718, .int .u16 37196, .int .u16 16402, .int .u16 27800, .int .u16 4312, .int .u16 27250, .int .u16 47360, .int .u16 64952, .int .u16 64308, .int .u16 65336, .int .u16 39198]
theorem basV_get (k : Nat) (h : k < 16) (K : Value → Prop) : getK basV k K = K (.int .u16 ((cbs.getD k 0).toNat : Int)) := by
  have : k = 0 ∨ k = 1 ∨ k = 2 ∨ k = 3 ∨ k = 4 ∨ k = 5 ∨ k = 6 ∨ k = 7 ∨ k = 8 ∨ k = 9 ∨ k = 10 ∨ k = 11 ∨ k = 12 ∨ k = 13 ∨ k = 14 ∨ k = 15 := by omega
  rcases this with rfl | rfl | rfl | rfl | rfl | rfl | rfl | rfl | rfl | rfl | rfl | rfl | rfl | rfl | rfl | rfl <;> rfl
theorem gf16_basis_spec (w : World) : CallV Try.prog 60 [] w fun v w' => v = .agg basV.toArray ∧ RowKit.Below w.heap.size w w' := by
  refine run_gf16_basis (by simp) ?_
  unfold c_gf16_basis
  generalize hz : List.replicate 16 (Value.int .u16 0) = z
  exact tabWP (cs := basV) (by subst hz; kernel_rfl) (fun _ _ => rfl) (by subst hz; kernel_rfl) (by kernel_rfl) (by simp [basV, scal]) fun w' h => ⟨rfl, h⟩
theorem gf16_element_spec (w : World) (n : Nat) (hn : n < 65536) : CallV Try.prog 43 [.int .i64 (n : Int)] w fun v w' => v = .int .u16 ((wel n).v.toNat : Int) ∧ RowKit.Below w.heap.size w w' := by
  refine run_gf16_element (by simp) ?_
  simp only [c_gf16_element, WS, List.getElem_cons_zero, List.getElem_cons_succ, Option.isNone_some, Option.isNone_none, List.getD_cons_zero, List.getD_cons_succ, I.at, atL, atO, atP, evp, evs, retV, ↓reduceIte, Nat.reduceEqDiff, reduceCtorEq]
  refine X_call0 ((gf16_basis_spec w).mono ?_)
  rintro _ w1 ⟨rfl, hB⟩
  simp (maxSteps := 1000000) (disch := omega) only [WS, List.getElem_cons_zero, List.getElem_cons_succ, Option.isNone_some, Option.isNone_none, List.getD_cons_zero, List.getD_cons_succ, I.at, atL, atO, atP, evp, evs, retV, ↓reduceIte, Nat.reduceEqDiff, reduceCtorEq, AS]
  refine loop_of (fun t w' => t 0 = .int .i64 (n : Int) ∧ t 6 = .agg basV.toArray ∧ RowKit.Below w.heap.size w w' ∧ ∃ k : Nat, t 7 = .int .i64 (k : Int) ∧ k ≤ 16 ∧ t 3 = .int .u16 ((bsum (fun t => sel (n.testBit t) (cbs.getD t 0)) k).toNat : Int)) (fun t _ => 16 - (toI (t 7)).toNat)
    ⟨by simp only [WS, List.getElem_cons_zero, List.getElem_cons_succ, Option.isNone_some, Option.isNone_none, List.getD_cons_zero, List.getD_cons_succ, I.at, atL, atO, atP, evp, evs, retV, ↓reduceIte, Nat.reduceEqDiff, reduceCtorEq], by simp only [WS, List.getElem_cons_zero, List.getElem_cons_succ, Option.isNone_some, Option.isNone_none, List.getD_cons_zero, List.getD_cons_succ, I.at, atL, atO, atP, evp, evs, retV, ↓reduceIte, Nat.reduceEqDiff, reduceCtorEq], hB, 0, rfl, by omega, rfl⟩ ?_
  rintro t w2 ⟨t0, t6, hB, k, t7, hk, t3⟩
  by_cases hlt : k < 16
  · simp (maxSteps := 1000000) (disch := omega) only [WS, List.getElem_cons_zero, List.getElem_cons_succ, Option.isNone_some, Option.isNone_none, List.getD_cons_zero, List.getD_cons_succ, I.at, atL, atO, atP, evp, evs, retV, ↓reduceIte, Nat.reduceEqDiff, reduceCtorEq, AS, t0, t6, t7, t3, X_ixv, Int.natCast_nonneg, Int.toNat_natCast, basV_get k hlt, show (((k : Int) < ((16 : Nat) : Int)) = True) from eq_true (by omega), X_shr, shr_nat .i64 n k (by show k ≤ 64; omega)]
    have e1 : bitsOp .and .i64 ((n >>> k : Nat) : Int) 1 = (((n >>> k) &&& 1 : Nat) : Int) := bits_and fits_i64 (b := 1) (by rw [Nat.shiftRight_eq_div_pow]; exact Nat.lt_of_le_of_lt (Nat.div_le_self _ _) (Nat.lt_trans hn (by decide))) (by decide)
    rw [e1, and_one_shr]
    by_cases hb : n.testBit k = true
    · rw [if_pos hb]
      simp (maxSteps := 1000000) (disch := omega) only [WS, List.getElem_cons_zero, List.getElem_cons_succ, Option.isNone_some, Option.isNone_none, List.getD_cons_zero, List.getD_cons_succ, I.at, atL, atO, atP, evp, evs, retV, ↓reduceIte, Nat.reduceEqDiff, reduceCtorEq, AS, t0, t6, t7, t3, show decide ((((1 : Nat)) : Int) = 1) = true from rfl]
      refine ⟨⟨hB, k + 1, rfl, by omega, ?_⟩, by omega⟩
      rw [bits_xor fits_u16 (BitVec.isLt _) (BitVec.isLt _), ← BitVec.toNat_xor]
      show _ = Value.int .u16 ((bsum _ k ^^^ sel (n.testBit k) _).toNat : Int)
      rw [hb]; rfl
    · rw [if_neg hb]
      simp (maxSteps := 1000000) (disch := omega) only [WS, List.getElem_cons_zero, List.getElem_cons_succ, Option.isNone_some, Option.isNone_none, List.getD_cons_zero, List.getD_cons_succ, I.at, atL, atO, atP, evp, evs, retV, ↓reduceIte, Nat.reduceEqDiff, reduceCtorEq, AS, t0, t6, t7, t3, show decide ((((0 : Nat)) : Int) = 1) = false from rfl]
      refine ⟨⟨hB, k + 1, rfl, by omega, ?_⟩, by omega⟩
      show _ = Value.int .u16 ((bsum _ k ^^^ sel (n.testBit k) _).toNat : Int)
      rw [Bool.eq_false_iff.2 hb]
      show _ = Value.int .u16 ((bsum _ k ^^^ 0#16).toNat : Int)
      rw [BitVec.xor_zero]
  · obtain rfl : k = 16 := by omega
    simp (maxSteps := 1000000) (disch := omega) only [WS, List.getElem_cons_zero, List.getElem_cons_succ, Option.isNone_some, Option.isNone_none, List.getD_cons_zero, List.getD_cons_succ, I.at, atL, atO, atP, evp, evs, retV, ↓reduceIte, Nat.reduceEqDiff, reduceCtorEq, AS, t0, t6, t7, t3, show decide (((16 : Nat) : Int) < 16) = false from rfl]
    refine ⟨?_, hB⟩
    congr 3
    show _ = bw (BitVec.ofNat 16 n)
    unfold bw
    refine bsum_congr 16 fun i hi => ?_
    congr 1
    rw [BitVec.getLsbD_ofNat]
    simp [hi]
theorem gf16_Element_spec (w : World) (n : Int) : CallV Try.prog 27 [.int .i64 n] w fun v w' => RowKit.Below w.heap.size w w' ∧ ((0 ≤ n ∧ n < 65536 ∧ v = .tuple #[.int .u16 ((wel n.toNat).v.toNat : Int), .int .i64 0]) ∨ (¬ (0 ≤ n ∧ n < 65536) ∧ v = .tuple #[.int .u16 0, .int .i64 31])) := by
  refine run_gf16_Element (by simp) ?_
  simp only [c_gf16_Element, WS, List.getElem_cons_zero, List.getElem_cons_succ, Option.isNone_some, Option.isNone_none, List.getD_cons_zero, List.getD_cons_succ, I.at, atL, atO, atP, evp, evs, retV, ↓reduceIte, Nat.reduceEqDiff, reduceCtorEq]
  by_cases h0 : n < 0
  · simp (maxSteps := 1000000) (disch := omega) only [WS, List.getElem_cons_zero, List.getElem_cons_succ, Option.isNone_some, Option.isNone_none, List.getD_cons_zero, List.getD_cons_succ, I.at, atL, atO, atP, evp, evs, retV, ↓reduceIte, Nat.reduceEqDiff, reduceCtorEq, AS]
    exact ⟨RowKit.Below.refl _ _, Or.inr (by omega)⟩
  obtain ⟨n, rfl⟩ : ∃ m : Nat, n = (m : Int) := ⟨n.toNat, by omega⟩
  by_cases h1 : 65535 < n
  · simp (maxSteps := 1000000) (disch := omega) only [WS, List.getElem_cons_zero, List.getElem_cons_succ, Option.isNone_some, Option.isNone_none, List.getD_cons_zero, List.getD_cons_succ, I.at, atL, atO, atP, evp, evs, retV, ↓reduceIte, Nat.reduceEqDiff, reduceCtorEq, AS]
    exact ⟨RowKit.Below.refl _ _, Or.inr (by omega)⟩
  simp (maxSteps := 1000000) (disch := omega) only [WS, List.getElem_cons_zero, List.getElem_cons_succ, Option.isNone_some, Option.isNone_none, List.getD_cons_zero, List.getD_cons_succ, I.at, atL, atO, atP, evp, evs, retV, ↓reduceIte, Nat.reduceEqDiff, reduceCtorEq, AS]
  refine X_call0 ((gf16_element_spec w n (by omega)).mono ?_)
  rintro _ w1 ⟨rfl, hB⟩
  simp (maxSteps := 1000000) (disch := omega) only [WS, List.getElem_cons_zero, List.getElem_cons_succ, Option.isNone_some, Option.isNone_none, List.getD_cons_zero, List.getD_cons_succ, I.at, atL, atO, atP, evp, evs, retV, ↓reduceIte, Nat.reduceEqDiff, reduceCtorEq, AS, Int.toNat_natCast]
  exact ⟨hB, Or.inl (by omega)⟩
theorem lch_Skew_spec (w : World) (i j : Int) : CallV Try.prog 52 [.int .i64 i, .int .i64 j] w fun v w' => RowKit.Below w.heap.size w w' ∧
    ((0 ≤ i ∧ i ≤ 16 ∧ 0 ≤ j ∧ j < 65536 ∧ v = .tuple #[.int .u16 ((wel (j.toNat >>> i.toNat)).v.toNat : Int), .int .i64 0]) ∨ (¬ (0 ≤ i ∧ i ≤ 16) ∧ v = .tuple #[.int .u16 0, .int .i64 7]) ∨ (0 ≤ i ∧ i ≤ 16 ∧ ¬ (0 ≤ j ∧ j < 65536) ∧ v = .tuple #[.int .u16 0, .int .i64 31])) := by
  refine run_lch_Skew (by simp) ?_
  simp only [c_lch_Skew, WS, List.getElem_cons_zero, List.getElem_cons_succ, Option.isNone_some, Option.isNone_none, List.getD_cons_zero, List.getD_cons_succ, I.at, atL, atO, atP, evp, evs, retV, ↓reduceIte, Nat.reduceEqDiff, reduceCtorEq]
  by_cases h0 : i < 0
  · simp (maxSteps := 1000000) (disch := omega) only [WS, List.getElem_cons_zero, List.getElem_cons_succ, Option.isNone_some, Option.isNone_none, List.getD_cons_zero, List.getD_cons_succ, I.at, atL, atO, atP, evp, evs, retV, ↓reduceIte, Nat.reduceEqDiff, reduceCtorEq, AS]
    exact ⟨RowKit.Below.refl _ _, Or.inr (Or.inl (by omega))⟩
  obtain ⟨i, rfl⟩ : ∃ m : Nat, i = (m : Int) := ⟨i.toNat, by omega⟩
  by_cases h1 : 16 < i
  · simp (maxSteps := 1000000) (disch := omega) only [WS, List.getElem_cons_zero, List.getElem_cons_succ, Option.isNone_some, Option.isNone_none, List.getD_cons_zero, List.getD_cons_succ, I.at, atL, atO, atP, evp, evs, retV, ↓reduceIte, Nat.reduceEqDiff, reduceCtorEq, AS]
    exact ⟨RowKit.Below.refl _ _, Or.inr (Or.inl (by omega))⟩
  by_cases h2 : j < 0
  · simp (maxSteps := 1000000) (disch := omega) only [WS, List.getElem_cons_zero, List.getElem_cons_succ, Option.isNone_some, Option.isNone_none, List.getD_cons_zero, List.getD_cons_succ, I.at, atL, atO, atP, evp, evs, retV, ↓reduceIte, Nat.reduceEqDiff, reduceCtorEq, AS]
    exact ⟨RowKit.Below.refl _ _, Or.inr (Or.inr (by omega))⟩
  obtain ⟨j, rfl⟩ : ∃ m : Nat, j = (m : Int) := ⟨j.toNat, by omega⟩
  by_cases h3 : 65535 < j
  · simp (maxSteps := 1000000) (disch := omega) only [WS, List.getElem_cons_zero, List.getElem_cons_succ, Option.isNone_some, Option.isNone_none, List.getD_cons_zero, List.getD_cons_succ, I.at, atL, atO, atP, evp, evs, retV, ↓reduceIte, Nat.reduceEqDiff, reduceCtorEq, AS]
    exact ⟨RowKit.Below.refl _ _, Or.inr (Or.inr (by omega))⟩
  simp (maxSteps := 1000000) (disch := omega) only [WS, List.getElem_cons_zero, List.getElem_cons_succ, Option.isNone_some, Option.isNone_none, List.getD_cons_zero, List.getD_cons_succ, I.at, atL, atO, atP, evp, evs, retV, ↓reduceIte, Nat.reduceEqDiff, reduceCtorEq, AS, X_shr, Int.natCast_nonneg, shr_nat .i64 j i (by show i ≤ 64; omega)]
  refine X_call0 ((gf16_Element_spec w _).mono ?_)
  have hs : j >>> i < 65536 := by rw [Nat.shiftRight_eq_div_pow]; exact Nat.lt_of_le_of_lt (Nat.div_le_self _ _) (by omega)
  rintro _ w1 ⟨hB, ⟨-, -, rfl⟩ | ⟨hn, -⟩⟩
  · simp (maxSteps := 1000000) (disch := omega) only [WS, List.getElem_cons_zero, List.getElem_cons_succ, Option.isNone_some, Option.isNone_none, List.getD_cons_zero, List.getD_cons_succ, I.at, atL, atO, atP, evp, evs, retV, ↓reduceIte, Nat.reduceEqDiff, reduceCtorEq, AS, Int.toNat_natCast]
    exact ⟨hB, Or.inl (by omega)⟩
  · exact absurd (show 0 ≤ ((j >>> i : Nat) : Int) ∧ ((j >>> i : Nat) : Int) < 65536 by generalize j >>> i = z at *; omega) hn
end Go.Proofs.Ytpmfeaajpjjfiaa.Fw

set_option linter.unusedVariables false
set_option linter.unusedSimpArgs false
set_option maxRecDepth 100000
set_option maxHeartbeats 1000000
namespace Go.Proofs.Ytpmfeaajpjjfiaa.Fw
open Go Go.Fw Go.Proofs
attribute [local irreducible] stepI
def c_afft_power : C := .seq (.ops [⟨0, (some 2), none, .mov (.c (.bool false)), []⟩]) (.seq (.ops [⟨0, (some 3), none, .mov (.t 0), []⟩, ⟨1, (some 4), none, .bin .geq (.t 3) (.c (.int .i64 1)), []⟩, ⟨2, (some 5), none, .mov (.t 4), []⟩, ⟨3, (some 6), (some (5, true)), .mov (.t 0), []⟩, ⟨4, (some 7), (some (5, true)), .bin .leq (.t 6) (.c (.int .i64 65536)), []⟩, ⟨5, (some 8), none, .pick (.t 5) (.t 7) (.c (.bool false)), []⟩, ⟨6, (some 9), none, .mov (.t 8), []⟩, ⟨7, (some 10), (some (9, true)), .mov (.t 0), []⟩, ⟨8, (some 11), (some (9, true)), .mov (.t 0), []⟩, ⟨9, (some 12), (some (9, true)), .bin .sub (.t 11) (.c (.int .i64 1)), []⟩, ⟨10, (some 13), (some (9, true)), .bin .and (.t 10) (.t 12), []⟩, ⟨11, (some 14), (some (9, true)), .bin .eql (.t 13) (.c (.int .i64 0)), []⟩, ⟨12, (some 15), none, .pick (.t 9) (.t 14) (.c (.bool false)), []⟩, ⟨13, (some 2), none, .mov (.t 15), []⟩]) .ret)
attribute [irreducible] c_afft_power
theorem run_afft_power {args : List Value} {w : World} {K : Value → World → Prop} (hn : args.length ≤ 16) (h : WP Try.prog c_afft_power (endQ [.t 2] K) (initT args) w) : CallV Try.prog 34 args w K :=
  call_of follows Try.func34 (by kernel_rfl) (by kernel_rfl) hn h
def c_afft_begins : C := .seq (.ops [⟨0, (some 6), none, .mov (.c (.bool false)), []⟩]) (.seq (.ops [⟨0, (some 7), none, .mov (.t 0), []⟩, ⟨1, (some 8), none, .bin .geq (.t 7) (.c (.int .i64 0)), []⟩, ⟨2, (some 9), none, .mov (.t 8), []⟩, ⟨3, (some 10), (some (9, true)), .mov (.t 2), []⟩, ⟨4, (some 11), (some (9, true)), .bin .leq (.t 10) (.c (.int .i64 65536)), []⟩, ⟨5, (some 12), none, .pick (.t 9) (.t 11) (.c (.bool false)), []⟩, ⟨6, (some 13), none, .mov (.t 12), []⟩, ⟨7, (some 14), (some (13, true)), .mov (.t 0), []⟩, ⟨8, (some 15), (some (13, true)), .mov (.t 2), []⟩, ⟨9, (some 16), (some (13, true)), .bin .sub (.c (.int .i64 65536)) (.t 15), []⟩, ⟨10, (some 17), (some (13, true)), .bin .leq (.t 14) (.t 16), []⟩, ⟨11, (some 18), none, .pick (.t 13) (.t 17) (.c (.bool false)), []⟩, ⟨12, (some 19), none, .mov (.t 18), []⟩, ⟨13, (some 20), (some (19, true)), .mov (.t 0), []⟩, ⟨14, (some 21), (some (19, true)), .mov (.t 1), []⟩, ⟨15, (some 22), (some (19, true)), .bin .rem (.t 20) (.t 21), []⟩, ⟨16, (some 23), (some (19, true)), .bin .eql (.t 22) (.c (.int .i64 0)), []⟩, ⟨17, (some 24), none, .pick (.t 19) (.t 23) (.c (.bool false)), []⟩, ⟨18, (some 6), none, .mov (.t 24), []⟩]) .ret)
attribute [irreducible] c_afft_begins
theorem run_afft_begins {args : List Value} {w : World} {K : Value → World → Prop} (hn : args.length ≤ 25) (h : WP Try.prog c_afft_begins (endQ [.t 6] K) (initT args) w) : CallV Try.prog 35 args w K :=
  call_of follows Try.func35 (by kernel_rfl) (by kernel_rfl) hn h
def c_afft_skew : C := .seq (.ops [⟨0, (some 4), none, .mov (.c (.int .u16 0)), []⟩]) (.seq (.ops [⟨0, (some 8), none, .mov (.t 0), []⟩, ⟨1, (some 9), none, .mov (.t 1), []⟩, ⟨2, (some 10), none, .call (.c (.func (.func 52) #[] #[])) [.t 8, .t 9], []⟩, ⟨3, (some 7), none, .mov (.t 10), []⟩, ⟨4, (some 11), none, .ext (.t 7) 0, []⟩, ⟨5, (some 12), none, .ext (.t 7) 1, []⟩, ⟨6, (some 5), none, .mov (.t 11), []⟩, ⟨7, (some 6), none, .mov (.t 12), []⟩]) (.seq (.ops [⟨0, (some 13), none, .mov (.t 5), []⟩, ⟨1, (some 4), none, .mov (.t 13), []⟩]) .ret))
attribute [irreducible] c_afft_skew
theorem run_afft_skew {args : List Value} {w : World} {K : Value → World → Prop} (hn : args.length ≤ 14) (h : WP Try.prog c_afft_skew (endQ [.t 4] K) (initT args) w) : CallV Try.prog 37 args w K :=
  call_of follows Try.func37 (by kernel_rfl) (by kernel_rfl) hn h
def c_afft_levels : C := .seq (.ops [⟨0, (some 2), none, .mov (.c (.int .i64 0)), []⟩]) (.seq (.ops [⟨0, (some 3), none, .mov (.c (.int .i64 (-1))), []⟩]) (.seq (.block 0 (.loop (.seq (.seq (.ops [⟨0, (some 4), none, .mov (.t 0), []⟩, ⟨1, (some 5), none, .bin .gtr (.t 4) (.c (.int .i64 1)), []⟩]) (.ite (.t 5) .skip (.exit 0))) (.seq (.block 1 (.ops [⟨0, (some 8), none, .mov (.t 3), []⟩, ⟨1, (some 9), none, .bin .add (.t 8) (.c (.int .i64 1)), []⟩, ⟨2, (some 3), none, .mov (.t 9), []⟩])) (.ops [⟨0, (some 6), none, .mov (.t 0), []⟩, ⟨1, (some 7), none, .bin .quo (.t 6) (.c (.int .i64 2)), []⟩, ⟨2, (some 0), none, .mov (.t 7), []⟩]))))) (.seq (.ops [⟨0, (some 10), none, .mov (.t 3), []⟩, ⟨1, (some 2), none, .mov (.t 10), []⟩]) .ret)))
attribute [irreducible] c_afft_levels
theorem run_afft_levels {args : List Value} {w : World} {K : Value → World → Prop} (hn : args.length ≤ 11) (h : WP Try.prog c_afft_levels (endQ [.t 2] K) (initT args) w) : CallV Try.prog 38 args w K :=
  call_of follows Try.func38 (by kernel_rfl) (by kernel_rfl) hn h
end Go.Proofs.Ytpmfeaajpjjfiaa.Fw
namespace Go.Proofs.Ytpmfeaajpjjfiaa.Fw
open Go Go.Fw
theorem and_pred (n : Nat) (h : n ≤ 65536) (h1 : 1 ≤ n) : bitsOp .and .i64 (n : Int) ((n - 1 : Nat) : Int) = ((n &&& (n - 1) : Nat) : Int) := bits_and fits_i64 (by omega) (by omega)
theorem afft_power_spec (w : World) (n : Int) : CallV Try.prog 34 [.int .i64 n] w fun v w' => v = .bool (isP n) ∧ w' = w := by
  refine run_afft_power (by simp) ?_
  simp only [c_afft_power, WS, List.getElem_cons_zero, List.getElem_cons_succ, Option.isNone_some, Option.isNone_none, List.getD_cons_zero, List.getD_cons_succ, I.at, atL, atO, atP, evp, evs, retV, ↓reduceIte, Nat.reduceEqDiff, reduceCtorEq]
  unfold isP
  by_cases h1 : 1 ≤ n
  · obtain ⟨n, rfl⟩ : ∃ m : Nat, n = (m : Int) := ⟨n.toNat, by omega⟩
    by_cases h2 : n ≤ 65536
    · have e : decide (((n &&& (n - 1) : Nat) : Int) = 0) = decide (1 ≤ (n : Int) ∧ (n : Int) ≤ 65536 ∧ (n : Int).toNat &&& ((n : Int).toNat - 1) = 0) := by
        rw [Int.toNat_natCast]
        exact decide_eq_decide.2 ⟨fun h => ⟨h1, by omega, by omega⟩, fun h => by omega⟩
      rw [← e]
      simp (maxSteps := 1000000) (disch := omega) only [WS, List.getElem_cons_zero, List.getElem_cons_succ, Option.isNone_some, Option.isNone_none, List.getD_cons_zero, List.getD_cons_succ, I.at, atL, atO, atP, evp, evs, retV, ↓reduceIte, Nat.reduceEqDiff, reduceCtorEq, AS, and_pred n h2 (by omega)]
    · simp (maxSteps := 1000000) (disch := omega) only [WS, List.getElem_cons_zero, List.getElem_cons_succ, Option.isNone_some, Option.isNone_none, List.getD_cons_zero, List.getD_cons_succ, I.at, atL, atO, atP, evp, evs, retV, ↓reduceIte, Nat.reduceEqDiff, reduceCtorEq, AS]
  · simp (maxSteps := 1000000) (disch := omega) only [WS, List.getElem_cons_zero, List.getElem_cons_succ, Option.isNone_some, Option.isNone_none, List.getD_cons_zero, List.getD_cons_succ, I.at, atL, atO, atP, evp, evs, retV, ↓reduceIte, Nat.reduceEqDiff, reduceCtorEq, AS]
/-- Does a coset of n begin at a, with len points from there on? -/
def isC (a : Int) (n len : Nat) : Bool := decide (0 ≤ a ∧ len ≤ 65536 ∧ a ≤ 65536 - (len : Int) ∧ a.toNat % n = 0)
theorem afft_begins_spec (w : World) (a : Int) (n len : Nat) (hn : n ≠ 0) : CallV Try.prog 35 [.int .i64 a, .int .i64 (n : Int), .int .i64 (len : Int)] w fun v w' => v = .bool (isC a n len) ∧ w' = w := by
  refine run_afft_begins (by simp) ?_
  simp only [c_afft_begins, WS, List.getElem_cons_zero, List.getElem_cons_succ, Option.isNone_some, Option.isNone_none, List.getD_cons_zero, List.getD_cons_succ, I.at, atL, atO, atP, evp, evs, retV, ↓reduceIte, Nat.reduceEqDiff, reduceCtorEq]
  unfold isC
  by_cases h1 : 0 ≤ a
  · obtain ⟨a, rfl⟩ : ∃ m : Nat, a = (m : Int) := ⟨a.toNat, by omega⟩
    by_cases h2 : len ≤ 65536
    · have e1 : IntKind.i64.wrap (65536 - (len : Int)) = ((65536 - len : Nat) : Int) := by rw [wrap_id (by omega) (by omega)]; omega
      by_cases h3 : a ≤ 65536 - len
      · have e : decide (((a % n : Nat) : Int) = 0) = decide (0 ≤ (a : Int) ∧ len ≤ 65536 ∧ (a : Int) ≤ 65536 - (len : Int) ∧ (a : Int).toNat % n = 0) := by
          rw [Int.toNat_natCast]
          exact decide_eq_decide.2 ⟨fun h => ⟨h1, by omega, by omega, by omega⟩, fun h => by omega⟩
        rw [← e]
        have hn' : ((n : Int) ≠ 0) = True := eq_true (by omega)
        simp (maxSteps := 1000000) (disch := omega) only [WS, List.getElem_cons_zero, List.getElem_cons_succ, Option.isNone_some, Option.isNone_none, List.getD_cons_zero, List.getD_cons_succ, I.at, atL, atO, atP, evp, evs, retV, ↓reduceIte, Nat.reduceEqDiff, reduceCtorEq, AS, e1, X_rem, hn', tmod_nat]
      · simp (maxSteps := 1000000) (disch := omega) only [WS, List.getElem_cons_zero, List.getElem_cons_succ, Option.isNone_some, Option.isNone_none, List.getD_cons_zero, List.getD_cons_succ, I.at, atL, atO, atP, evp, evs, retV, ↓reduceIte, Nat.reduceEqDiff, reduceCtorEq, AS, e1]
    · simp (maxSteps := 1000000) (disch := omega) only [WS, List.getElem_cons_zero, List.getElem_cons_succ, Option.isNone_some, Option.isNone_none, List.getD_cons_zero, List.getD_cons_succ, I.at, atL, atO, atP, evp, evs, retV, ↓reduceIte, Nat.reduceEqDiff, reduceCtorEq, AS]
  · simp (maxSteps := 1000000) (disch := omega) only [WS, List.getElem_cons_zero, List.getElem_cons_succ, Option.isNone_some, Option.isNone_none, List.getD_cons_zero, List.getD_cons_succ, I.at, atL, atO, atP, evp, evs, retV, ↓reduceIte, Nat.reduceEqDiff, reduceCtorEq, AS]
theorem afft_levels_spec (w : World) (k : Nat) (hk : k ≤ 16) : CallV Try.prog 38 [.int .i64 ((2 ^ k : Nat) : Int)] w fun v w' => v = .int .i64 ((k : Int) - 1) ∧ w' = w := by
  refine run_afft_levels (by simp) ?_
  simp only [c_afft_levels, WS, List.getElem_cons_zero, List.getElem_cons_succ, Option.isNone_some, Option.isNone_none, List.getD_cons_zero, List.getD_cons_succ, I.at, atL, atO, atP, evp, evs, retV, ↓reduceIte, Nat.reduceEqDiff, reduceCtorEq]
  refine loop_of (fun t w' => w' = w ∧ ∃ j : Nat, t 0 = .int .i64 ((2 ^ j : Nat) : Int) ∧ j ≤ k ∧ t 3 = .int .i64 ((k : Int) - 1 - (j : Int))) (fun t _ => (toI (t 0)).toNat) ⟨rfl, k, by simp only [WS, List.getElem_cons_zero, List.getElem_cons_succ, Option.isNone_some, Option.isNone_none, List.getD_cons_zero, List.getD_cons_succ, I.at, atL, atO, atP, evp, evs, retV, ↓reduceIte, Nat.reduceEqDiff, reduceCtorEq], by omega, by rw [show (k : Int) - 1 - (k : Int) = -1 by omega]; simp only [WS, List.getElem_cons_zero, List.getElem_cons_succ, Option.isNone_some, Option.isNone_none, List.getD_cons_zero, List.getD_cons_succ, I.at, atL, atO, atP, evp, evs, retV, ↓reduceIte, Nat.reduceEqDiff, reduceCtorEq]⟩ ?_
  rintro t w' ⟨rfl, j, t0, hj, t3⟩
  have hp := Nat.two_pow_pos j
  cases j with
  | zero =>
    simp (maxSteps := 1000000) (disch := omega) only [WS, List.getElem_cons_zero, List.getElem_cons_succ, Option.isNone_some, Option.isNone_none, List.getD_cons_zero, List.getD_cons_succ, I.at, atL, atO, atP, evp, evs, retV, ↓reduceIte, Nat.reduceEqDiff, reduceCtorEq, AS, t0, t3, show decide ((1 : Int) < ((2 ^ 0 : Nat) : Int)) = false from rfl]
    rw [show (k : Int) - 1 - ((0 : Nat) : Int) = (k : Int) - 1 by omega]
  | succ j =>
    have hp2 : 2 ^ (j + 1) = 2 ^ j * 2 := Nat.pow_succ 2 j
    have hp3 := Nat.two_pow_pos j
    have hp4 : 2 ^ (j + 1) ≤ 2 ^ 16 := Nat.pow_le_pow_right (by omega) (by omega)
    have e2 : IntKind.i64.wrap (((2 ^ (j + 1) : Nat) : Int).tdiv 2) = ((2 ^ j : Nat) : Int) := by
      rw [show (2 : Int) = ((2 : Nat) : Int) from rfl, tdiv_nat, hp2, Nat.mul_div_cancel _ (by omega), wrap_64 _ (by omega)]
    have e3 : IntKind.i64.wrap ((k : Int) - 1 - ((j + 1 : Nat) : Int) + 1) = (k : Int) - 1 - (j : Int) := by rw [wrap_id (by omega) (by omega)]; omega
    simp (maxSteps := 1000000) (disch := omega) only [WS, List.getElem_cons_zero, List.getElem_cons_succ, Option.isNone_some, Option.isNone_none, List.getD_cons_zero, List.getD_cons_succ, I.at, atL, atO, atP, evp, evs, retV, ↓reduceIte, Nat.reduceEqDiff, reduceCtorEq, AS, t0, t3, X_quo, e2, e3, show ((2 : Int) ≠ 0) = True from eq_true (by decide)]
    refine ⟨⟨j, rfl, by omega, rfl⟩, ?_⟩
    simp only [Int.toNat_natCast]
    omega
theorem afft_skew_spec (w : World) (t j : Nat) (ht : t ≤ 16) (hj : j < 65536) : CallV Try.prog 37 [.int .i64 (t : Int), .int .i64 (j : Int)] w fun v w' => v = .int .u16 ((wel (j >>> t)).v.toNat : Int) ∧ RowKit.Below w.heap.size w w' := by
  refine run_afft_skew (by simp) ?_
  simp only [c_afft_skew, WS, List.getElem_cons_zero, List.getElem_cons_succ, Option.isNone_some, Option.isNone_none, List.getD_cons_zero, List.getD_cons_succ, I.at, atL, atO, atP, evp, evs, retV, ↓reduceIte, Nat.reduceEqDiff, reduceCtorEq]
  refine X_call0 ((lch_Skew_spec w t j).mono ?_)
  rintro _ w1 ⟨hB, ⟨-, -, -, -, rfl⟩ | ⟨hn, -⟩ | ⟨-, -, hn, -⟩⟩
  · simp (maxSteps := 1000000) (disch := omega) only [WS, List.getElem_cons_zero, List.getElem_cons_succ, Option.isNone_some, Option.isNone_none, List.getD_cons_zero, List.getD_cons_succ, I.at, atL, atO, atP, evp, evs, retV, ↓reduceIte, Nat.reduceEqDiff, reduceCtorEq, AS, Int.toNat_natCast]
    exact hB
  · exact absurd ⟨by omega, by omega⟩ hn
  · exact absurd ⟨by omega, by omega⟩ hn
end Go.Proofs.Ytpmfeaajpjjfiaa.Fw

set_option linter.unusedVariables false
set_option linter.unusedSimpArgs false
set_option maxRecDepth 100000
set_option maxHeartbeats 1000000
namespace Go.Proofs.Ytpmfeaajpjjfiaa.Fw
open Go Go.Fw Go.Proofs
attribute [local irreducible] stepI
def c_afft_addTimes : C := .seq (.seq (.ops [⟨0, (some 15), none, .mov (.t 0), []⟩, ⟨1, (some 16), none, .bin .eql (.t 15) (.c (.int .u16 0)), []⟩]) (.ite (.t 16) .ret .skip)) (.seq (.seq (.ops [⟨0, (some 17), none, .mov (.t 2), []⟩, ⟨1, (some 18), none, .len (.t 17), []⟩, ⟨2, (some 19), none, .bin .lss (.t 18) (.c (.int .i64 16)), []⟩]) (.ite (.t 19) (.seq (.seq (.ops [⟨0, (some 20), none, .mov (.t 2), []⟩, ⟨1, (some 21), none, .len (.t 20), []⟩, ⟨2, (some 22), none, .mov (.c (.int .i64 0)), []⟩]) (.block 0 (.loop (.seq (.ops [⟨0, (some 23), none, .bin .lss (.t 22) (.t 21), []⟩]) (.seq (.ite (.t 23) .skip (.exit 0)) (.seq (.block 1 (.seq (.ops [⟨0, (some 24), none, .mov (.t 22), []⟩, ⟨1, (some 25), none, .ixs 1 (.t 20) (.t 22), []⟩, ⟨2, (some 26), none, .ld (.t 25), []⟩, ⟨3, (some 6), none, .mov (.t 24), []⟩, ⟨4, (some 7), none, .mov (.t 26), []⟩]) (.dops [⟨0, (some 27), none, .mov (.t 1), []⟩, ⟨1, (some 28), none, .mov (.t 6), []⟩, ⟨2, (some 29), none, .ixs 1 (.t 27) (.t 28), []⟩, ⟨3, (some 30), none, .ld (.t 29), []⟩, ⟨4, (some 31), none, .mov (.t 0), []⟩, ⟨5, (some 32), none, .mov (.t 7), []⟩, ⟨6, (some 33), none, .call (.c (.func (.func 20) #[] #[])) [.t 31, .t 32], [3]⟩, ⟨7, (some 34), none, .bin .xor (.t 30) (.t 33), []⟩, ⟨8, (some 35), none, .ixs 1 (.t 27) (.t 28), []⟩, ⟨9, none, none, .st (.t 35) (.t 34), []⟩]))) (.ops [⟨0, (some 36), none, .bin .add (.t 22) (.c (.int .i64 1)), []⟩, ⟨1, (some 22), none, .mov (.t 36), []⟩]))))))) .ret) .skip)) (.seq (.ops [⟨0, (some 8), none, .alloc 91 (List.replicate 64 (.int .u16 0)), []⟩]) (.seq (.seq (.ops [⟨0, (some 37), none, .mov (.c (.int .i64 0)), []⟩]) (.block 2 (.loop (.seq (.ops [⟨0, (some 38), none, .bin .lss (.t 37) (.c (.int .i64 4)), []⟩]) (.seq (.ite (.t 38) .skip (.exit 2)) (.seq (.block 3 (.seq (.ops [⟨0, (some 39), none, .mov (.t 37), []⟩, ⟨1, (some 9), none, .mov (.t 39), []⟩]) (.seq (.ops [⟨0, (some 10), none, .mov (.c (.int .i64 1)), []⟩]) (.block 4 (.loop (.seq (.seq (.ops [⟨0, (some 40), none, .mov (.t 10), []⟩, ⟨1, (some 41), none, .bin .lss (.t 40) (.c (.int .i64 16)), []⟩]) (.ite (.t 41) .skip (.exit 4))) (.seq (.block 5 (.seq (.ops [⟨0, (some 44), none, .mov (.t 0), []⟩, ⟨1, (some 45), none, .mov (.t 10), []⟩, ⟨2, (some 46), none, .cnv .u16 (.t 45), []⟩, ⟨3, (some 47), none, .mov (.t 9), []⟩, ⟨4, (some 48), none, .bin .mul (.c (.int .i64 4)) (.t 47), []⟩, ⟨5, (some 49), none, .bin .shl (.t 46) (.t 48), []⟩, ⟨6, (some 50), none, .call (.c (.func (.func 20) #[] #[])) [.t 44, .t 49], []⟩, ⟨7, (some 11), none, .mov (.t 50), []⟩]) (.seq (.ops [⟨0, (some 51), none, .mov (.t 10), []⟩, ⟨1, (some 52), none, .mov (.c (.int .i64 0)), []⟩]) (.block 6 (.loop (.seq (.ops [⟨0, (some 53), none, .bin .lss (.t 52) (.t 51), []⟩]) (.seq (.ite (.t 53) .skip (.exit 6)) (.seq (.block 7 (.seq (.ops [⟨0, (some 54), none, .mov (.t 52), []⟩, ⟨1, (some 12), none, .mov (.t 54), []⟩]) (.dops [⟨0, (some 55), none, .mov (.t 9), []⟩, ⟨1, (some 56), none, .mov (.t 10), []⟩, ⟨2, (some 57), none, .mov (.t 12), []⟩, ⟨3, (some 58), none, .bin .add (.t 56) (.t 57), []⟩, ⟨4, (some 59), none, .mov (.t 11), []⟩, ⟨5, (some 60), none, .mov (.t 9), []⟩, ⟨6, (some 61), none, .mov (.t 12), []⟩, ⟨7, (some 62), none, .ixa 4 16 (.t 8) (.t 60), []⟩, ⟨8, (some 63), none, .ixa 16 1 (.t 62) (.t 61), []⟩, ⟨9, (some 64), none, .ld (.t 63), []⟩, ⟨10, (some 65), none, .bin .xor (.t 59) (.t 64), []⟩, ⟨11, (some 66), none, .ixa 4 16 (.t 8) (.t 55), []⟩, ⟨12, (some 67), none, .ixa 16 1 (.t 66) (.t 58), []⟩, ⟨13, none, none, .st (.t 67) (.t 65), []⟩]))) (.ops [⟨0, (some 68), none, .bin .add (.t 52) (.c (.int .i64 1)), []⟩, ⟨1, (some 52), none, .mov (.t 68), []⟩]))))))))) (.ops [⟨0, (some 42), none, .mov (.t 10), []⟩, ⟨1, (some 43), none, .bin .mul (.t 42) (.c (.int .i64 2)), []⟩, ⟨2, (some 10), none, .mov (.t 43), []⟩])))))))) (.ops [⟨0, (some 69), none, .bin .add (.t 37) (.c (.int .i64 1)), []⟩, ⟨1, (some 37), none, .mov (.t 69), []⟩]))))))) (.seq (.ops [⟨0, (some 70), none, .mov (.t 2), []⟩, ⟨1, (some 71), none, .len (.t 70), []⟩, ⟨2, (some 72), none, .mov (.c (.int .i64 0)), []⟩]) (.block 8 (.loop (.seq (.ops [⟨0, (some 73), none, .bin .lss (.t 72) (.t 71), []⟩]) (.seq (.ite (.t 73) .skip (.exit 8)) (.seq (.block 9 (.seq (.ops [⟨0, (some 74), none, .mov (.t 72), []⟩, ⟨1, (some 75), none, .ixs 1 (.t 70) (.t 72), []⟩, ⟨2, (some 76), none, .ld (.t 75), []⟩, ⟨3, (some 13), none, .mov (.t 74), []⟩, ⟨4, (some 14), none, .mov (.t 76), []⟩]) (.dops [⟨0, (some 77), none, .mov (.t 1), []⟩, ⟨1, (some 78), none, .mov (.t 13), []⟩, ⟨2, (some 79), none, .ixs 1 (.t 77) (.t 78), []⟩, ⟨3, (some 80), none, .ld (.t 79), []⟩, ⟨4, (some 81), none, .mov (.t 14), []⟩, ⟨5, (some 82), none, .bin .and (.t 81) (.c (.int .u16 15)), []⟩, ⟨6, (some 83), none, .ixa 4 16 (.t 8) (.c (.int .i64 0)), []⟩, ⟨7, (some 84), none, .ixa 16 1 (.t 83) (.t 82), []⟩, ⟨8, (some 85), none, .ld (.t 84), []⟩, ⟨9, (some 86), none, .mov (.t 14), []⟩, ⟨10, (some 87), none, .bin .shr (.t 86) (.c (.int .u64 4)), []⟩, ⟨11, (some 88), none, .bin .and (.t 87) (.c (.int .u16 15)), []⟩, ⟨12, (some 89), none, .ixa 4 16 (.t 8) (.c (.int .i64 1)), []⟩, ⟨13, (some 90), none, .ixa 16 1 (.t 89) (.t 88), []⟩, ⟨14, (some 91), none, .ld (.t 90), []⟩, ⟨15, (some 92), none, .bin .xor (.t 85) (.t 91), []⟩, ⟨16, (some 93), none, .mov (.t 14), []⟩, ⟨17, (some 94), none, .bin .shr (.t 93) (.c (.int .u64 8)), []⟩, ⟨18, (some 95), none, .bin .and (.t 94) (.c (.int .u16 15)), []⟩, ⟨19, (some 96), none, .ixa 4 16 (.t 8) (.c (.int .i64 2)), []⟩, ⟨20, (some 97), none, .ixa 16 1 (.t 96) (.t 95), []⟩, ⟨21, (some 98), none, .ld (.t 97), []⟩, ⟨22, (some 99), none, .bin .xor (.t 92) (.t 98), []⟩, ⟨23, (some 100), none, .mov (.t 14), []⟩, ⟨24, (some 101), none, .bin .shr (.t 100) (.c (.int .u64 12)), []⟩, ⟨25, (some 102), none, .ixa 4 16 (.t 8) (.c (.int .i64 3)), []⟩, ⟨26, (some 103), none, .ixa 16 1 (.t 102) (.t 101), []⟩, ⟨27, (some 104), none, .ld (.t 103), []⟩, ⟨28, (some 105), none, .bin .xor (.t 99) (.t 104), []⟩, ⟨29, (some 106), none, .bin .xor (.t 80) (.t 105), []⟩, ⟨30, (some 107), none, .ixs 1 (.t 77) (.t 78), []⟩, ⟨31, none, none, .st (.t 107) (.t 106), []⟩]))) (.ops [⟨0, (some 108), none, .bin .add (.t 72) (.c (.int .i64 1)), []⟩, ⟨1, (some 72), none, .mov (.t 108), []⟩]))))))))))
attribute [irreducible] c_afft_addTimes
theorem run_afft_addTimes {args : List Value} {w : World} {K : Value → World → Prop} (hn : args.length ≤ 109) (h : WP Try.prog c_afft_addTimes (endQ [] K) (initT args) w) : CallV Try.prog 51 args w K :=
  call_of follows Try.func51 (by kernel_rfl) (by kernel_rfl) hn h
end Go.Proofs.Ytpmfeaajpjjfiaa.Fw
namespace Go.Proofs.Ytpmfeaajpjjfiaa.Fw
open Go Go.Fw
theorem map_get {α : Type} [Cell α] (l : List α) {i : Nat} (h : i < l.length) (h' : i < (l.map (Cell.v : α → Value)).length) : (l.map (Cell.v : α → Value))[i] = Cell.v l[i] := by simp
theorem afft_addTimes_spec {M : List (El 16) → World → Prop} (c : El 16) (dst src : Value) (ss dd : List (El 16)) (w : World) (hW : Wr M dst) (hs : ∀ l w, M l w → Sl w src ss) (hm : M dd w) (hl : ss.length ≤ dd.length) (hb : ss.length ≤ 70368744175616) :
    CallV Try.prog 51 [.int .u16 (c.v.toNat : Int), dst, src] w fun v w' => v = .tuple #[] ∧ ∃ d', M d' w' ∧ d'.length = dd.length ∧ ∀ i, (co d').c i = (co dd).c i + c * (co ss).c i := by
  refine run_afft_addTimes (by simp) ?_
  simp only [c_afft_addTimes, WS, List.getElem_cons_zero, List.getElem_cons_succ, Option.isNone_some, Option.isNone_none, List.getD_cons_zero, List.getD_cons_succ, I.at, atL, atO, atP, evp, evs, retV, ↓reduceIte, Nat.reduceEqDiff, reduceCtorEq]
  by_cases hc0 : c = 0
  · have d1 : decide ((c.v.toNat : Int) = 0) = true := decide_eq_true ((el_zero c).mpr hc0)
    simp (maxSteps := 1000000) (disch := omega) only [WS, List.getElem_cons_zero, List.getElem_cons_succ, Option.isNone_some, Option.isNone_none, List.getD_cons_zero, List.getD_cons_succ, I.at, atL, atO, atP, evp, evs, retV, ↓reduceIte, Nat.reduceEqDiff, reduceCtorEq, AS, d1]
    exact ⟨dd, hm, rfl, fun i => by rw [hc0, El.zero_mul, El.add_zero]⟩
  have d1 : decide ((c.v.toNat : Int) = 0) = false := decide_eq_false fun e => hc0 ((el_zero c).mp e)
  by_cases h16 : ss.length < 16
  · simp (maxSteps := 1000000) (disch := omega) only [WS, List.getElem_cons_zero, List.getElem_cons_succ, Option.isNone_some, Option.isNone_none, List.getD_cons_zero, List.getD_cons_succ, I.at, atL, atO, atP, evp, evs, retV, ↓reduceIte, Nat.reduceEqDiff, reduceCtorEq, AS, d1, (hs dd w hm).Xlen]
    refine loop_of (fun t w' => t 0 = .int .u16 (c.v.toNat : Int) ∧ t 1 = dst ∧ t 20 = src ∧ t 21 = .int .i64 (ss.length : Int) ∧ ∃ (k : Nat) (d : List (El 16)), t 22 = .int .i64 (k : Int) ∧ k ≤ ss.length ∧ M d w' ∧ d.length = dd.length ∧ ∀ i, (co d).c i = if i < k then (co dd).c i + c * (co ss).c i else (co dd).c i)
      (fun t _ => ss.length - (toI (t 22)).toNat) ⟨by simp only [WS, List.getElem_cons_zero, List.getElem_cons_succ, Option.isNone_some, Option.isNone_none, List.getD_cons_zero, List.getD_cons_succ, I.at, atL, atO, atP, evp, evs, retV, ↓reduceIte, Nat.reduceEqDiff, reduceCtorEq], by simp only [WS, List.getElem_cons_zero, List.getElem_cons_succ, Option.isNone_some, Option.isNone_none, List.getD_cons_zero, List.getD_cons_succ, I.at, atL, atO, atP, evp, evs, retV, ↓reduceIte, Nat.reduceEqDiff, reduceCtorEq], by simp only [WS, List.getElem_cons_zero, List.getElem_cons_succ, Option.isNone_some, Option.isNone_none, List.getD_cons_zero, List.getD_cons_succ, I.at, atL, atO, atP, evp, evs, retV, ↓reduceIte, Nat.reduceEqDiff, reduceCtorEq], by simp only [WS, List.getElem_cons_zero, List.getElem_cons_succ, Option.isNone_some, Option.isNone_none, List.getD_cons_zero, List.getD_cons_succ, I.at, atL, atO, atP, evp, evs, retV, ↓reduceIte, Nat.reduceEqDiff, reduceCtorEq], 0, dd, rfl, by omega, hm, rfl, fun i => by rw [if_neg (by omega)]⟩ ?_
    clear hm
    rintro t w1 ⟨t0, t1, t20, t21, k, d, t22, hk, hm, hd, hco⟩
    by_cases hlt : k < ss.length
    · have hkd : k < d.length := by omega
      have hsl := hs d w1 hm
      simp (maxSteps := 1000000) (disch := omega) only [WS, List.getElem_cons_zero, List.getElem_cons_succ, Option.isNone_some, Option.isNone_none, List.getD_cons_zero, List.getD_cons_succ, I.at, atL, atO, atP, evp, evs, retV, ↓reduceIte, Nat.reduceEqDiff, reduceCtorEq, AS, t0, t1, t20, t21, t22, hsl.Xix hlt, hsl.Xld hlt, cell_e16]
      refine WP_dops ?_
      have hmd := hW.drew hm
      have hdd := hW.sl d _ hmd
      have see : Fw.sees Try.prog (.ld (.c (elP dst k))) w1.drew (.int .u16 (d[k].v.toNat : Int)) = True := hdd.sees hkd Try.prog
      simp (maxSteps := 1000000) (disch := omega) only [ES, List.mem_cons, List.not_mem_nil, implies_true, forall_const, WS, List.getElem_cons_zero, List.getElem_cons_succ, Option.isNone_some, Option.isNone_none, List.getD_cons_zero, List.getD_cons_succ, I.at, atL, atO, atP, evp, evs, retV, ↓reduceIte, Nat.reduceEqDiff, reduceCtorEq, AS, t0, t1, t20, t21, t22, hdd.Eix hkd, hdd.Eld hkd, cell_e16]
      refine E_call0 ((gf16_Mul_spec w1.drew c ss[k]).mono ?_)
      rintro _ w2 ⟨rfl, rfl⟩
      simp (maxSteps := 1000000) (disch := omega) only [ES, List.mem_cons, List.not_mem_nil, implies_true, forall_const, WS, List.getElem_cons_zero, List.getElem_cons_succ, Option.isNone_some, Option.isNone_none, List.getD_cons_zero, List.getD_cons_succ, I.at, atL, atO, atP, evp, evs, retV, ↓reduceIte, Nat.reduceEqDiff, reduceCtorEq, AS, see, xor16, hdd.Eix hkd]
      refine hW.Est hmd hkd (d[k] + c * ss[k]) fun w3 hm3 hg3 => ?_
      simp (maxSteps := 1000000) (disch := omega) only [ES, List.mem_cons, List.not_mem_nil, implies_true, forall_const, WS, List.getElem_cons_zero, List.getElem_cons_succ, Option.isNone_some, Option.isNone_none, List.getD_cons_zero, List.getD_cons_succ, I.at, atL, atO, atP, evp, evs, retV, ↓reduceIte, Nat.reduceEqDiff, reduceCtorEq, AS, t0, t1, t20, t21, t22]
      refine ⟨⟨k + 1, _, rfl, by omega, hm3, by simp [hd], fun i => ?_⟩, by omega⟩
      rw [co_set _ hkd, hco i]
      by_cases hi : i = k
      · subst hi
        have := hco i
        rw [if_neg (by omega), co_get d hkd] at this
        rw [if_pos rfl, if_pos (by omega), this, co_get ss hlt]
      · rw [if_neg hi]
        by_cases hik : i < k
        · rw [if_pos hik, if_pos (by omega)]
        · rw [if_neg hik, if_neg (by omega)]
    · simp (maxSteps := 1000000) (disch := omega) only [WS, List.getElem_cons_zero, List.getElem_cons_succ, Option.isNone_some, Option.isNone_none, List.getD_cons_zero, List.getD_cons_succ, I.at, atL, atO, atP, evp, evs, retV, ↓reduceIte, Nat.reduceEqDiff, reduceCtorEq, AS, t0, t1, t20, t21, t22]
      refine ⟨d, hm, hd, fun i => ?_⟩
      rw [hco i]
      by_cases hi : i < k
      · rw [if_pos hi]
      · rw [if_neg hi, co_dg ss i (by omega), El.mul_zero, El.add_zero]
  have hdne : dd ≠ [] := by rintro rfl; have h := hl; simp only [List.length_nil] at h; omega
  have hblt : (bs dst).block < w.heap.size := (hW.sl dd w hm).bs_lt hdne
  simp (maxSteps := 1000000) (disch := omega) only [WS, List.getElem_cons_zero, List.getElem_cons_succ, Option.isNone_some, Option.isNone_none, List.getD_cons_zero, List.getD_cons_succ, I.at, atL, atO, atP, evp, evs, retV, ↓reduceIte, Nat.reduceEqDiff, reduceCtorEq, AS, d1, (hs dd w hm).Xlen]
  refine X_alloc fun b w1 hr hbs hB => ?_
  have hr : Row w1 b ((List.replicate 64 (0 : El 16)).map Cell.v) := by rw [List.map_replicate]; exact hr
  simp (maxSteps := 1000000) (disch := omega) only [WS, List.getElem_cons_zero, List.getElem_cons_succ, Option.isNone_some, Option.isNone_none, List.getD_cons_zero, List.getD_cons_succ, I.at, atL, atO, atP, evp, evs, retV, ↓reduceIte, Nat.reduceEqDiff, reduceCtorEq, AS]
  refine loop_of (fun t w' => t 0 = .int .u16 (c.v.toNat : Int) ∧ t 1 = dst ∧ t 2 = src ∧ t 8 = .pointer (some ⟨b, 0, none⟩) ∧ RowKit.Below w.heap.size w w' ∧ ∃ (n : Nat) (pt : List (El 16)), t 37 = .int .i64 (n : Int) ∧ n ≤ 4 ∧ Row w' b (pt.map Cell.v) ∧ pt.length = 64 ∧
      (∀ m x, m < n → x < 16 → (co pt).c (16 * m + x) = want c m x) ∧ ∀ m, n ≤ m → m < 4 → (co pt).c (16 * m) = 0) (fun t _ => 4 - (toI (t 37)).toNat)
    ⟨by simp only [WS, List.getElem_cons_zero, List.getElem_cons_succ, Option.isNone_some, Option.isNone_none, List.getD_cons_zero, List.getD_cons_succ, I.at, atL, atO, atP, evp, evs, retV, ↓reduceIte, Nat.reduceEqDiff, reduceCtorEq], by simp only [WS, List.getElem_cons_zero, List.getElem_cons_succ, Option.isNone_some, Option.isNone_none, List.getD_cons_zero, List.getD_cons_succ, I.at, atL, atO, atP, evp, evs, retV, ↓reduceIte, Nat.reduceEqDiff, reduceCtorEq], by simp only [WS, List.getElem_cons_zero, List.getElem_cons_succ, Option.isNone_some, Option.isNone_none, List.getD_cons_zero, List.getD_cons_succ, I.at, atL, atO, atP, evp, evs, retV, ↓reduceIte, Nat.reduceEqDiff, reduceCtorEq], by simp only [WS, List.getElem_cons_zero, List.getElem_cons_succ, Option.isNone_some, Option.isNone_none, List.getD_cons_zero, List.getD_cons_succ, I.at, atL, atO, atP, evp, evs, retV, ↓reduceIte, Nat.reduceEqDiff, reduceCtorEq], hB, 0, _, rfl, by omega, hr, by simp, fun m x h => by omega, fun m _ _ => by rw [co_replicate]; rfl⟩ ?_
  clear hr hB
  rintro t w2 ⟨t0, t1, t2, t8, hB, n, pt, t37, hn, hr, hpl, hw1, hw2⟩
  by_cases hn4 : n < 4
  · simp (maxSteps := 1000000) (disch := omega) only [WS, List.getElem_cons_zero, List.getElem_cons_succ, Option.isNone_some, Option.isNone_none, List.getD_cons_zero, List.getD_cons_succ, I.at, atL, atO, atP, evp, evs, retV, ↓reduceIte, Nat.reduceEqDiff, reduceCtorEq, AS, t0, t1, t2, t8, t37]
    refine loop_of (fun t w' => t 0 = .int .u16 (c.v.toNat : Int) ∧ t 1 = dst ∧ t 2 = src ∧ t 8 = .pointer (some ⟨b, 0, none⟩) ∧ t 37 = .int .i64 (n : Int) ∧ t 9 = .int .i64 (n : Int) ∧ RowKit.Below w.heap.size w w' ∧ ∃ (j : Nat) (pt : List (El 16)), t 10 = .int .i64 ((2 ^ j : Nat) : Int) ∧ j ≤ 4 ∧ Row w' b (pt.map Cell.v) ∧ pt.length = 64 ∧
        (∀ m x, m < n → x < 16 → (co pt).c (16 * m + x) = want c m x) ∧ (∀ x, x < 2 ^ j → (co pt).c (16 * n + x) = want c n x) ∧ ∀ m, n < m → m < 4 → (co pt).c (16 * m) = 0) (fun t _ => 16 - (toI (t 10)).toNat)
      ⟨by simp only [WS, List.getElem_cons_zero, List.getElem_cons_succ, Option.isNone_some, Option.isNone_none, List.getD_cons_zero, List.getD_cons_succ, I.at, atL, atO, atP, evp, evs, retV, ↓reduceIte, Nat.reduceEqDiff, reduceCtorEq]; exact t0, by simp only [WS, List.getElem_cons_zero, List.getElem_cons_succ, Option.isNone_some, Option.isNone_none, List.getD_cons_zero, List.getD_cons_succ, I.at, atL, atO, atP, evp, evs, retV, ↓reduceIte, Nat.reduceEqDiff, reduceCtorEq]; exact t1, by simp only [WS, List.getElem_cons_zero, List.getElem_cons_succ, Option.isNone_some, Option.isNone_none, List.getD_cons_zero, List.getD_cons_succ, I.at, atL, atO, atP, evp, evs, retV, ↓reduceIte, Nat.reduceEqDiff, reduceCtorEq]; exact t2, by simp only [WS, List.getElem_cons_zero, List.getElem_cons_succ, Option.isNone_some, Option.isNone_none, List.getD_cons_zero, List.getD_cons_succ, I.at, atL, atO, atP, evp, evs, retV, ↓reduceIte, Nat.reduceEqDiff, reduceCtorEq]; exact t8, by simp only [WS, List.getElem_cons_zero, List.getElem_cons_succ, Option.isNone_some, Option.isNone_none, List.getD_cons_zero, List.getD_cons_succ, I.at, atL, atO, atP, evp, evs, retV, ↓reduceIte, Nat.reduceEqDiff, reduceCtorEq]; exact t37, rfl, hB, 0, pt, rfl, by omega, hr, hpl, hw1, fun x hx => by have hx0 : x = 0 := (by simpa using hx); subst hx0; rw [Nat.add_zero, hw2 n (Nat.le_refl _) hn4, want_zero], fun m h1 h2 => hw2 m (by omega) h2⟩ ?_
    clear t0 t1 t2 t8 t37 hB hr hpl hw1 hw2
    rintro t w3 ⟨t0, t1, t2, t8, t37, t9, hB, j, pt, t10, hj, hr, hpl, hw1, hw2, hw3⟩
    by_cases hj4 : j < 4
    · have hp0 := Nat.two_pow_pos j
      have hp1 : 2 ^ j ≤ 2 ^ 3 := Nat.pow_le_pow_right (by omega) (by omega)
      have hq : 2 ^ j * 2 ^ (4 * n) < 2 ^ 16 := by
        have h1 : 2 ^ (4 * n) ≤ 2 ^ 12 := Nat.pow_le_pow_right (by omega) (by omega)
        have := Nat.mul_le_mul hp1 h1
        omega
      have e1 : IntKind.i64.wrap (4 * (n : Int)) = ((4 * n : Nat) : Int) := w_mull n 4 (by show 4 * n < _; omega)
      have e2 : IntKind.u16.wrap ((2 ^ j : Nat) : Int) = ((2 ^ j : Nat) : Int) := wrap_u16 _ (by omega)
      have e3 : shlV .u16 ((2 ^ j : Nat) : Int) ((4 * n : Nat) : Int) = ((2 ^ j <<< (4 * n) : Nat) : Int) := shl_nat fits_u16 _ _ (by show 4 * n ≤ 16; omega) hq
      have e4 : ((2 ^ j <<< (4 * n) : Nat) : Int) = ((eN (2 ^ j <<< (4 * n))).v.toNat : Int) := by rw [eN_v _ (by rw [Nat.shiftLeft_eq]; omega)]
      simp (maxSteps := 1000000) (disch := omega) only [WS, List.getElem_cons_zero, List.getElem_cons_succ, Option.isNone_some, Option.isNone_none, List.getD_cons_zero, List.getD_cons_succ, I.at, atL, atO, atP, evp, evs, retV, ↓reduceIte, Nat.reduceEqDiff, reduceCtorEq, AS, t0, t1, t2, t8, t9, t10, t37, e1, e2, X_shl, Int.natCast_nonneg, e3]
      rw [e4]
      refine X_call0 ((gf16_Mul_spec w3 c (eN (2 ^ j <<< (4 * n)))).mono ?_)
      rintro _ w4 ⟨rfl, rfl⟩
      simp (maxSteps := 1000000) (disch := omega) only [WS, List.getElem_cons_zero, List.getElem_cons_succ, Option.isNone_some, Option.isNone_none, List.getD_cons_zero, List.getD_cons_succ, I.at, atL, atO, atP, evp, evs, retV, ↓reduceIte, Nat.reduceEqDiff, reduceCtorEq, AS, t0, t1, t2, t8, t9, t10, t37]
      refine loop_of (fun t w' => t 0 = .int .u16 (c.v.toNat : Int) ∧ t 1 = dst ∧ t 2 = src ∧ t 8 = .pointer (some ⟨b, 0, none⟩) ∧ t 37 = .int .i64 (n : Int) ∧ t 9 = .int .i64 (n : Int) ∧ t 10 = .int .i64 ((2 ^ j : Nat) : Int) ∧ t 11 = .int .u16 ((want c n (2 ^ j)).v.toNat : Int) ∧ t 51 = .int .i64 ((2 ^ j : Nat) : Int) ∧ RowKit.Below w.heap.size w w' ∧ ∃ (low : Nat) (pt : List (El 16)), t 52 = .int .i64 (low : Int) ∧ low ≤ 2 ^ j ∧ Row w' b (pt.map Cell.v) ∧ pt.length = 64 ∧
          (∀ m x, m < n → x < 16 → (co pt).c (16 * m + x) = want c m x) ∧ (∀ x, x < 2 ^ j + low → (co pt).c (16 * n + x) = want c n x) ∧ ∀ m, n < m → m < 4 → (co pt).c (16 * m) = 0) (fun t _ => 2 ^ j - (toI (t 52)).toNat)
        ⟨by simp only [WS, List.getElem_cons_zero, List.getElem_cons_succ, Option.isNone_some, Option.isNone_none, List.getD_cons_zero, List.getD_cons_succ, I.at, atL, atO, atP, evp, evs, retV, ↓reduceIte, Nat.reduceEqDiff, reduceCtorEq]; exact t0, by simp only [WS, List.getElem_cons_zero, List.getElem_cons_succ, Option.isNone_some, Option.isNone_none, List.getD_cons_zero, List.getD_cons_succ, I.at, atL, atO, atP, evp, evs, retV, ↓reduceIte, Nat.reduceEqDiff, reduceCtorEq]; exact t1, by simp only [WS, List.getElem_cons_zero, List.getElem_cons_succ, Option.isNone_some, Option.isNone_none, List.getD_cons_zero, List.getD_cons_succ, I.at, atL, atO, atP, evp, evs, retV, ↓reduceIte, Nat.reduceEqDiff, reduceCtorEq]; exact t2, by simp only [WS, List.getElem_cons_zero, List.getElem_cons_succ, Option.isNone_some, Option.isNone_none, List.getD_cons_zero, List.getD_cons_succ, I.at, atL, atO, atP, evp, evs, retV, ↓reduceIte, Nat.reduceEqDiff, reduceCtorEq]; exact t8, by simp only [WS, List.getElem_cons_zero, List.getElem_cons_succ, Option.isNone_some, Option.isNone_none, List.getD_cons_zero, List.getD_cons_succ, I.at, atL, atO, atP, evp, evs, retV, ↓reduceIte, Nat.reduceEqDiff, reduceCtorEq]; exact t37, by simp only [WS, List.getElem_cons_zero, List.getElem_cons_succ, Option.isNone_some, Option.isNone_none, List.getD_cons_zero, List.getD_cons_succ, I.at, atL, atO, atP, evp, evs, retV, ↓reduceIte, Nat.reduceEqDiff, reduceCtorEq]; exact t9, by simp only [WS, List.getElem_cons_zero, List.getElem_cons_succ, Option.isNone_some, Option.isNone_none, List.getD_cons_zero, List.getD_cons_succ, I.at, atL, atO, atP, evp, evs, retV, ↓reduceIte, Nat.reduceEqDiff, reduceCtorEq]; exact t10, rfl, by simp only [WS, List.getElem_cons_zero, List.getElem_cons_succ, Option.isNone_some, Option.isNone_none, List.getD_cons_zero, List.getD_cons_succ, I.at, atL, atO, atP, evp, evs, retV, ↓reduceIte, Nat.reduceEqDiff, reduceCtorEq], hB, 0, pt, rfl, by omega, hr, hpl, hw1, hw2, hw3⟩ ?_
      clear t0 t1 t2 t8 t37 t9 t10 hB hr hpl hw1 hw2 hw3
      rintro t w5 ⟨t0, t1, t2, t8, t37, t9, t10, t11, t51, hB, low, pt, t52, hlow, hr, hpl, hw1, hw2, hw3⟩
      by_cases hlt : low < 2 ^ j
      · have hi1 : 16 * n + low < pt.length := by omega
        have hi2 : 16 * n + (2 ^ j + low) < pt.length := by omega
        have hi1' : 16 * n + low < (pt.map (Cell.v : El 16 → Value)).length := by simpa using hi1
        have hi2' : 16 * n + (2 ^ j + low) < (pt.map (Cell.v : El 16 → Value)).length := by simpa using hi2
        have hrd := hr.drew
        simp (maxSteps := 1000000) (disch := omega) only [WS, List.getElem_cons_zero, List.getElem_cons_succ, Option.isNone_some, Option.isNone_none, List.getD_cons_zero, List.getD_cons_succ, I.at, atL, atO, atP, evp, evs, retV, ↓reduceIte, Nat.reduceEqDiff, reduceCtorEq, AS, t0, t1, t2, t8, t9, t10, t11, t37, t51, t52]
        refine WP_dops ?_
        have a1 : 0 + n * 16 + low * 1 = 16 * n + low := by omega
        have a2 : 0 + n * 16 + (2 ^ j + low) * 1 = 16 * n + (2 ^ j + low) := by omega
        simp (maxSteps := 1000000) (disch := omega) only [ES, List.mem_cons, List.not_mem_nil, implies_true, forall_const, WS, List.getElem_cons_zero, List.getElem_cons_succ, Option.isNone_some, Option.isNone_none, List.getD_cons_zero, List.getD_cons_succ, I.at, atL, atO, atP, evp, evs, retV, ↓reduceIte, Nat.reduceEqDiff, reduceCtorEq, w_add, addr_add0, t0, t1, t2, t8, t9, t10, t11, t37, t51, t52, E_ixa (n := 4) (sz := 16) hn4, E_ixa (n := 16) (sz := 1) (show low < 16 by omega), E_ixa (n := 16) (sz := 1) (show 2 ^ j + low < 16 by omega), a1, a2, hrd.Eld hi1', map_get pt hi1 hi1', cell_e16, xor16]
        refine Row.Est hrd hi2' (v := Cell.v (want c n (2 ^ j) + pt[16 * n + low])) rfl fun w6 hr6 hg6 => ?_
        rw [← List.map_set] at hr6
        have hB6 : RowKit.Below w.heap.size w w6 := (hB.trans ((bel_drew w5).mono hB.size)).grown hg6 hB.size fun k hk => by cases hk; exact hbs
        simp (maxSteps := 1000000) (disch := omega) only [ES, List.mem_cons, List.not_mem_nil, implies_true, forall_const, WS, List.getElem_cons_zero, List.getElem_cons_succ, Option.isNone_some, Option.isNone_none, List.getD_cons_zero, List.getD_cons_succ, I.at, atL, atO, atP, evp, evs, retV, ↓reduceIte, Nat.reduceEqDiff, reduceCtorEq, AS, t0, t1, t2, t8, t9, t10, t11, t37, t51, t52]
        have hval : want c n (2 ^ j) + pt[16 * n + low] = want c n (2 ^ j + low) := by
          rw [want_step c n j low hj4 hlt, ← co_get pt hi1, hw2 low (by omega)]
        refine ⟨⟨hB6, low + 1, _, rfl, by omega, hr6, by simp [hpl], fun m x hm hx => ?_, fun x hx => ?_, fun m h1 h2 => ?_⟩, by omega⟩
        · rw [co_set _ hi2, if_neg (by omega)]; exact hw1 m x hm hx
        · rw [co_set _ hi2]
          by_cases hx2 : x = 2 ^ j + low
          · subst hx2; rw [if_pos rfl, hval]
          · rw [if_neg (by omega)]; exact hw2 x (by omega)
        · rw [co_set _ hi2, if_neg (by omega)]; exact hw3 m h1 h2
      · have hp5 : 2 ^ (j + 1) = 2 * 2 ^ j := by rw [Nat.pow_succ, Nat.mul_comm]
        simp (maxSteps := 1000000) (disch := omega) only [WS, List.getElem_cons_zero, List.getElem_cons_succ, Option.isNone_some, Option.isNone_none, List.getD_cons_zero, List.getD_cons_succ, I.at, atL, atO, atP, evp, evs, retV, ↓reduceIte, Nat.reduceEqDiff, reduceCtorEq, AS, t0, t1, t2, t8, t9, t10, t11, t37, t51, t52]
        refine ⟨⟨hB, j + 1, pt, by rw [hp5, Nat.mul_comm], by omega, hr, hpl, hw1, fun x hx => hw2 x (by omega), hw3⟩, by simp only [Int.toNat_natCast]; omega⟩
    · obtain rfl : j = 4 := by omega
      simp (maxSteps := 1000000) (disch := omega) only [WS, List.getElem_cons_zero, List.getElem_cons_succ, Option.isNone_some, Option.isNone_none, List.getD_cons_zero, List.getD_cons_succ, I.at, atL, atO, atP, evp, evs, retV, ↓reduceIte, Nat.reduceEqDiff, reduceCtorEq, AS, t0, t1, t2, t8, t9, t10, t37, show decide (((2 ^ 4 : Nat) : Int) < 16) = false from rfl]
      refine ⟨⟨hB, n + 1, pt, rfl, by omega, hr, hpl, fun m x hm hx => ?_, fun m h1 h2 => hw3 m (by omega) h2⟩, by omega⟩
      by_cases hmn : m = n
      · subst hmn; exact hw2 x (by omega)
      · exact hw1 m x (by omega) hx
  · obtain rfl : n = 4 := by omega
    have hm2 : M dd w2 := hW.up dd w w2 hm hB
    have hW2 := hW.row (pt.map Cell.v) (b := b) (by omega)
    simp (maxSteps := 1000000) (disch := omega) only [WS, List.getElem_cons_zero, List.getElem_cons_succ, Option.isNone_some, Option.isNone_none, List.getD_cons_zero, List.getD_cons_succ, I.at, atL, atO, atP, evp, evs, retV, ↓reduceIte, Nat.reduceEqDiff, reduceCtorEq, AS, t0, t1, t2, t8, t37, show decide (((4 : Nat) : Int) < 4) = false from rfl, (hs dd w2 hm2).Xlen]
    refine loop_of (fun t w' => t 0 = .int .u16 (c.v.toNat : Int) ∧ t 1 = dst ∧ t 70 = src ∧ t 71 = .int .i64 (ss.length : Int) ∧ t 8 = .pointer (some ⟨b, 0, none⟩) ∧ ∃ (k : Nat) (d : List (El 16)), t 72 = .int .i64 (k : Int) ∧ k ≤ ss.length ∧ (M d w' ∧ Row w' b (pt.map Cell.v)) ∧ d.length = dd.length ∧ ∀ i, (co d).c i = if i < k then (co dd).c i + c * (co ss).c i else (co dd).c i)
      (fun t _ => ss.length - (toI (t 72)).toNat) ⟨by simp only [WS, List.getElem_cons_zero, List.getElem_cons_succ, Option.isNone_some, Option.isNone_none, List.getD_cons_zero, List.getD_cons_succ, I.at, atL, atO, atP, evp, evs, retV, ↓reduceIte, Nat.reduceEqDiff, reduceCtorEq]; exact t0, by simp only [WS, List.getElem_cons_zero, List.getElem_cons_succ, Option.isNone_some, Option.isNone_none, List.getD_cons_zero, List.getD_cons_succ, I.at, atL, atO, atP, evp, evs, retV, ↓reduceIte, Nat.reduceEqDiff, reduceCtorEq]; exact t1, by simp only [WS, List.getElem_cons_zero, List.getElem_cons_succ, Option.isNone_some, Option.isNone_none, List.getD_cons_zero, List.getD_cons_succ, I.at, atL, atO, atP, evp, evs, retV, ↓reduceIte, Nat.reduceEqDiff, reduceCtorEq], by simp only [WS, List.getElem_cons_zero, List.getElem_cons_succ, Option.isNone_some, Option.isNone_none, List.getD_cons_zero, List.getD_cons_succ, I.at, atL, atO, atP, evp, evs, retV, ↓reduceIte, Nat.reduceEqDiff, reduceCtorEq], by simp only [WS, List.getElem_cons_zero, List.getElem_cons_succ, Option.isNone_some, Option.isNone_none, List.getD_cons_zero, List.getD_cons_succ, I.at, atL, atO, atP, evp, evs, retV, ↓reduceIte, Nat.reduceEqDiff, reduceCtorEq]; exact t8, 0, dd, rfl, by omega, ⟨hm2, hr⟩, rfl, fun i => by rw [if_neg (by omega)]⟩ ?_
    clear hm hm2 hr hB t0 t1 t2 t8 t37
    rintro t w3 ⟨t0, t1, t70, t71, t8, k, d, t72, hk, hm, hd, hco⟩
    by_cases hlt : k < ss.length
    · have hkd : k < d.length := by omega
      have hsl := hs d w3 hm.1
      simp (maxSteps := 1000000) (disch := omega) only [WS, List.getElem_cons_zero, List.getElem_cons_succ, Option.isNone_some, Option.isNone_none, List.getD_cons_zero, List.getD_cons_succ, I.at, atL, atO, atP, evp, evs, retV, ↓reduceIte, Nat.reduceEqDiff, reduceCtorEq, AS, t0, t1, t8, t70, t71, t72, hsl.Xix hlt, hsl.Xld hlt, cell_e16]
      refine WP_dops ?_
      have hmd := hW2.drew hm
      have hdd := hW2.sl d _ hmd
      have hrd := hmd.2
      generalize hx : ss[k] = x
      have hxl := x.v.isLt
      have b0 : x.v.toNat &&& 15 < 16 := Nat.and_lt_two_pow (n := 4) _ (by decide)
      have b1 : (x.v.toNat >>> 4) &&& 15 < 16 := Nat.and_lt_two_pow (n := 4) _ (by decide)
      have b2 : (x.v.toNat >>> 8) &&& 15 < 16 := Nat.and_lt_two_pow (n := 4) _ (by decide)
      have b3 : x.v.toNat >>> 12 < 16 := by rw [Nat.shiftRight_eq_div_pow]; omega
      have c0 : bitsOp .and .u16 (x.v.toNat : Int) 15 = ((x.v.toNat &&& 15 : Nat) : Int) := bits_and fits_u16 (b := 15) hxl (by decide)
      have c1 : bitsOp .and .u16 ((x.v.toNat >>> 4 : Nat) : Int) 15 = (((x.v.toNat >>> 4) &&& 15 : Nat) : Int) := bits_and fits_u16 (b := 15) (by rw [Nat.shiftRight_eq_div_pow]; omega) (by decide)
      have c2 : bitsOp .and .u16 ((x.v.toNat >>> 8 : Nat) : Int) 15 = (((x.v.toNat >>> 8) &&& 15 : Nat) : Int) := bits_and fits_u16 (b := 15) (by rw [Nat.shiftRight_eq_div_pow]; omega) (by decide)
      have s1 : shrV .u16 (x.v.toNat : Int) 4 = ((x.v.toNat >>> 4 : Nat) : Int) := shr_nat .u16 _ 4 (by decide)
      have s2 : shrV .u16 (x.v.toNat : Int) 8 = ((x.v.toNat >>> 8 : Nat) : Int) := shr_nat .u16 _ 8 (by decide)
      have s3 : shrV .u16 (x.v.toNat : Int) 12 = ((x.v.toNat >>> 12 : Nat) : Int) := shr_nat .u16 _ 12 (by decide)
      have hdig := want_digits c x
      generalize (x.v.toNat &&& 15) = y0 at *
      generalize (x.v.toNat >>> 4) &&& 15 = y1 at *
      generalize (x.v.toNat >>> 8) &&& 15 = y2 at *
      generalize hz1 : x.v.toNat >>> 4 = z1 at *
      generalize hz2 : x.v.toNat >>> 8 = z2 at *
      generalize x.v.toNat >>> 12 = y3 at *
      have l0 : 16 * 0 + y0 < pt.length := by omega
      have l1 : 16 * 1 + y1 < pt.length := by omega
      have l2 : 16 * 2 + y2 < pt.length := by omega
      have l3 : 16 * 3 + y3 < pt.length := by omega
      have m0 : 16 * 0 + y0 < (pt.map (Cell.v : El 16 → Value)).length := by simpa using l0
      have m1 : 16 * 1 + y1 < (pt.map (Cell.v : El 16 → Value)).length := by simpa using l1
      have m2 : 16 * 2 + y2 < (pt.map (Cell.v : El 16 → Value)).length := by simpa using l2
      have m3 : 16 * 3 + y3 < (pt.map (Cell.v : El 16 → Value)).length := by simpa using l3
      have a0 : 0 + 0 * 16 + y0 * 1 = 16 * 0 + y0 := by omega
      have a1 : 0 + 1 * 16 + y1 * 1 = 16 * 1 + y1 := by omega
      have a2 : 0 + 2 * 16 + y2 * 1 = 16 * 2 + y2 := by omega
      have a3 : 0 + 3 * 16 + y3 * 1 = 16 * 3 + y3 := by omega
      simp (maxSteps := 1000000) (disch := omega) only [ES, List.mem_cons, List.not_mem_nil, implies_true, forall_const, WS, List.getElem_cons_zero, List.getElem_cons_succ, Option.isNone_some, Option.isNone_none, List.getD_cons_zero, List.getD_cons_succ, I.at, atL, atO, atP, evp, evs, retV, ↓reduceIte, Nat.reduceEqDiff, reduceCtorEq, addr_add0, t0, t1, t8, t70, t71, t72, hx, hdd.Eix hkd, hdd.Eld hkd, cell_e16, E_shr, show ((0 : Int) ≤ 4) = True from eq_true (by decide), show ((0 : Int) ≤ 8) = True from eq_true (by decide), show ((0 : Int) ≤ 12) = True from eq_true (by decide), c0, s1, c1, s2, c2, s3,
        E_ixac (n := 4) (sz := 16) 0 0 rfl (by decide), E_ixac (n := 4) (sz := 16) 1 1 rfl (by decide), E_ixac (n := 4) (sz := 16) 2 2 rfl (by decide), E_ixac (n := 4) (sz := 16) 3 3 rfl (by decide), E_ixa (n := 16) (sz := 1) b0, E_ixa (n := 16) (sz := 1) b1, E_ixa (n := 16) (sz := 1) b2, E_ixa (n := 16) (sz := 1) b3, a0, a1, a2, a3,
        hrd.Eld m0, hrd.Eld m1, hrd.Eld m2, hrd.Eld m3, map_get pt l0 m0, map_get pt l1 m1, map_get pt l2 m2, map_get pt l3 m3, xor16]
      refine hW2.Est hmd hkd _ fun w4 hm4 hg4 => ?_
      simp (maxSteps := 1000000) (disch := omega) only [ES, List.mem_cons, List.not_mem_nil, implies_true, forall_const, WS, List.getElem_cons_zero, List.getElem_cons_succ, Option.isNone_some, Option.isNone_none, List.getD_cons_zero, List.getD_cons_succ, I.at, atL, atO, atP, evp, evs, retV, ↓reduceIte, Nat.reduceEqDiff, reduceCtorEq, AS, t0, t1, t8, t70, t71, t72]
      refine ⟨⟨k + 1, _, rfl, by omega, hm4, by simp [hd], fun i => ?_⟩, by omega⟩
      rw [co_set _ hkd, hco i]
      by_cases hi : i = k
      · subst hi
        have := hco i
        rw [if_neg (by omega), co_get d hkd] at this
        rw [if_pos rfl, if_pos (by omega), this, co_get ss hlt, hx, ← co_get pt l0, ← co_get pt l1, ← co_get pt l2, ← co_get pt l3, hw1 0 y0 (by omega) b0, hw1 1 y1 (by omega) b1, hw1 2 y2 (by omega) b2, hw1 3 y3 (by omega) b3, hdig]
      · rw [if_neg hi]
        by_cases hik : i < k
        · rw [if_pos hik, if_pos (by omega)]
        · rw [if_neg hik, if_neg (by omega)]
    · simp (maxSteps := 1000000) (disch := omega) only [WS, List.getElem_cons_zero, List.getElem_cons_succ, Option.isNone_some, Option.isNone_none, List.getD_cons_zero, List.getD_cons_succ, I.at, atL, atO, atP, evp, evs, retV, ↓reduceIte, Nat.reduceEqDiff, reduceCtorEq, AS, t0, t1, t8, t70, t71, t72]
      refine ⟨d, hm.1, hd, fun i => ?_⟩
      rw [hco i]
      by_cases hi : i < k
      · rw [if_pos hi]
      · rw [if_neg hi, co_dg ss i (by omega), El.mul_zero, El.add_zero]
end Go.Proofs.Ytpmfeaajpjjfiaa.Fw
