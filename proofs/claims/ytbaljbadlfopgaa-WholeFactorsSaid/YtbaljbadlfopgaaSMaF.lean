import Derived.Test.YtbaljbadlfopgaaProg
import Derived.Test.YtbaljbadlfopgaaFwTF
import Derived.Test.YtbaljbadlfopgaaSMrF
set_option linter.all false
set_option linter.unusedVariables false
set_option linter.unusedSimpArgs false
set_option maxRecDepth 100000
set_option maxHeartbeats 1000000
namespace Go.Proofs.Ytbaljbadlfopgaa.Fw
open Go Go.Fw Go.Proofs
attribute [local irreducible] stepI
def c_gf16_Element : C := .seq (.ops [⟨0, (some 2), none, .mov (.c (.int .u16 0)), []⟩, ⟨1, (some 3), none, .mov (.c (.int .i64 0)), []⟩]) (.seq (.seq (.ops [⟨0, (some 4), none, .mov (.t 0), []⟩, ⟨1, (some 5), none, .bin .lss (.t 4) (.c (.int .i64 0)), []⟩, ⟨2, (some 6), none, .mov (.t 5), []⟩, ⟨3, (some 7), (some (6, false)), .mov (.t 0), []⟩, ⟨4, (some 8), (some (6, false)), .bin .gtr (.t 7) (.c (.int .i64 65535)), []⟩, ⟨5, (some 9), none, .pick (.t 6) (.c (.bool true)) (.t 8), []⟩]) (.ite (.t 9) (.seq (.ops [⟨0, (some 2), none, .mov (.c (.int .u16 0)), []⟩, ⟨1, (some 3), none, .mov (.c (.int .i64 31)), []⟩]) .ret) .skip)) (.seq (.ops [⟨0, (some 10), none, .mov (.t 0), []⟩, ⟨1, (some 11), none, .call (.c (.func (.func 69) #[] #[])) [.t 10], []⟩, ⟨2, (some 2), none, .mov (.t 11), []⟩, ⟨3, (some 3), none, .mov (.c (.int .i64 0)), []⟩]) .ret))
attribute [irreducible] c_gf16_Element
theorem run_gf16_Element {args : List Value} {w : World} {K : Value → World → Prop} (hn : args.length ≤ 12) (h : WP Try.prog c_gf16_Element (endQ [.t 2, .t 3] K) (initT args) w) : CallV Try.prog 35 args w K :=
  call_of follows Try.func35 (by kernel_rfl) (by kernel_rfl) hn h
def c_gf16_element : C := .seq (.ops [⟨0, (some 2), none, .mov (.c (.int .u16 0)), []⟩]) (.seq (.ops [⟨0, (some 3), none, .mov (.c (.int .u16 0)), []⟩]) (.seq (.seq (.ops [⟨0, (some 6), none, .call (.c (.func (.func 108) #[] #[])) [], []⟩, ⟨1, (some 7), none, .mov (.c (.int .i64 0)), []⟩]) (.block 0 (.loop (.seq (.ops [⟨0, (some 8), none, .bin .lss (.t 7) (.c (.int .i64 16)), []⟩]) (.seq (.ite (.t 8) .skip (.exit 0)) (.seq (.block 1 (.seq (.ops [⟨0, (some 9), none, .mov (.t 7), []⟩, ⟨1, (some 10), none, .ixv 16 (.t 6) (.t 7), []⟩, ⟨2, (some 4), none, .mov (.t 9), []⟩, ⟨3, (some 5), none, .mov (.t 10), []⟩]) (.seq (.ops [⟨0, (some 11), none, .mov (.t 0), []⟩, ⟨1, (some 12), none, .mov (.t 4), []⟩, ⟨2, (some 13), none, .bin .shr (.t 11) (.t 12), []⟩, ⟨3, (some 14), none, .bin .and (.t 13) (.c (.int .i64 1)), []⟩, ⟨4, (some 15), none, .bin .eql (.t 14) (.c (.int .i64 1)), []⟩]) (.ite (.t 15) (.ops [⟨0, (some 16), none, .mov (.t 3), []⟩, ⟨1, (some 17), none, .mov (.t 5), []⟩, ⟨2, (some 18), none, .bin .xor (.t 16) (.t 17), []⟩, ⟨3, (some 3), none, .mov (.t 18), []⟩]) .skip)))) (.ops [⟨0, (some 19), none, .bin .add (.t 7) (.c (.int .i64 1)), []⟩, ⟨1, (some 7), none, .mov (.t 19), []⟩]))))))) (.seq (.ops [⟨0, (some 20), none, .mov (.t 3), []⟩, ⟨1, (some 2), none, .mov (.t 20), []⟩]) .ret)))
attribute [irreducible] c_gf16_element
theorem run_gf16_element {args : List Value} {w : World} {K : Value → World → Prop} (hn : args.length ≤ 21) (h : WP Try.prog c_gf16_element (endQ [.t 2] K) (initT args) w) : CallV Try.prog 69 args w K :=
  call_of follows Try.func69 (by kernel_rfl) (by kernel_rfl) hn h
def c_gf16_basis : C := .seq (.ops [⟨0, (some 0), none, .alloc 181 (List.replicate 16 (.int .u16 0)), []⟩]) (.seq (.ops [⟨0, (some 1), none, .bld (List.replicate 16 (.int .u16 0)) [(0, (1, .c (.int .u16 1))), (1, (1, .c (.int .u16 44234))), (2, (1, .c (.int .u16 15374))), (3, (1, .c (.int .u16 5694))), (4, (1, .c (.int .u16 50562))), (5, (1, .c (.int .u16 60718))), (6, (1, .c (.int .u16 37196))), (7, (1, .c (.int .u16 16402))), (8, (1, .c (.int .u16 27800))), (9, (1, .c (.int .u16 4312))), (10, (1, .c (.int .u16 27250))), (11, (1, .c (.int .u16 47360))), (12, (1, .c (.int .u16 64952))), (13, (1, .c (.int .u16 64308))), (14, (1, .c (.int .u16 65336))), (15, (1, .c (.int .u16 39198)))], []⟩, ⟨1, none, none, .stn 16 (.t 0) (.t 1), []⟩]) .ret)
attribute [irreducible] c_gf16_basis
theorem run_gf16_basis {args : List Value} {w : World} {K : Value → World → Prop} (hn : args.length ≤ 2) (h : WP Try.prog c_gf16_basis (endQ [.cn 0 16] K) (initT args) w) : CallV Try.prog 108 args w K :=
  call_of follows Try.func108 (by kernel_rfl) (by kernel_rfl) hn h
end Go.Proofs.Ytbaljbadlfopgaa.Fw
namespace Go.Proofs.Ytbaljbadlfopgaa.Fw
open Go Go.Fw
def basV : List Value := [.int .u16 1, .int .u16 44234, .int .u16 15374, .int .u16 5694, .int .u16 50562, .int .u16 60718, .int .u16 37196, .int .u16 16402, .int .u16 27800, .int .u16 4312, .int .u16 27250, .int .u16 47360, .int .u16 64952, .int .u16 64308, .int .u16 65336, .int .u16 39198]
theorem basV_get (k : Nat) (h : k < 16) (K : Value → Prop) : getK basV k K = K (.int .u16 ((cbs.getD k 0).toNat : Int)) := by
  have : k = 0 ∨ k = 1 ∨ k = 2 ∨ k = 3 ∨ k = 4 ∨ k = 5 ∨ k = 6 ∨ k = 7 ∨ k = 8 ∨ k = 9 ∨ k = 10 ∨ k = 11 ∨ k = 12 ∨ k = 13 ∨ k = 14 ∨ k = 15 := by omega
  rcases this with rfl | rfl | rfl | rfl | rfl | rfl | rfl | rfl | rfl | rfl | rfl | rfl | rfl | rfl | rfl | rfl <;> rfl
theorem gf16_basis_spec (w : World) : CallV Try.prog 108 [] w fun v w' => v = .agg basV.toArray ∧ RowKit.Below w.heap.size w w' := by
  refine run_gf16_basis (by simp) ?_
  unfold c_gf16_basis
  generalize hz : List.replicate 16 (Value.int .u16 0) = z
  exact tabWP (cs := basV) (by subst hz; kernel_rfl) (fun _ _ => rfl) (by subst hz; kernel_rfl) (by kernel_rfl) (by simp [basV, scal]) fun w' h => ⟨rfl, h⟩
theorem gf16_element_spec (w : World) (n : Nat) (hn : n < 65536) : CallV Try.prog 69 [.int .i64 (n : Int)] w fun v w' => v = .int .u16 ((wel n).v.toNat : Int) ∧ RowKit.Below w.heap.size w w' := by
  refine run_gf16_element (by simp) ?_
  simp only [c_gf16_element, WS, List.getElem_cons_zero, List.getElem_cons_succ, Option.isNone_some, Option.isNone_none, List.getD_cons_zero, List.getD_cons_succ, I.at, atL, atO, atP, evp, evs, retV, ↓reduceIte, Nat.reduceEqDiff, reduceCtorEq]
  refine X_call0 ((gf16_basis_spec w).mono ?_)
  rintro _ w1 ⟨rfl, hB⟩
  simp (maxSteps := 1000000) (disch := omega) only [WS, List.getElem_cons_zero, List.getElem_cons_succ, Option.isNone_some, Option.isNone_none, List.getD_cons_zero, List.getD_cons_succ, I.at, atL, atO, atP, evp, evs, retV, ↓reduceIte, Nat.reduceEqDiff, reduceCtorEq, AS]
  refine loop_of (fun t w' => t 0 = .int .i64 (n : Int) ∧ t 6 = .agg basV.toArray ∧ RowKit.Below w.heap.size w w' ∧ ∃ k : Nat, t 7 = .int .i64 (k : Int) ∧ k ≤ 16 ∧ t 3 = .int .u16 ((bsum (fun t => sel (n.testBit t) (cbs.getD t 0)) k).toNat : Int)) (fun t _ => 16 - (toI (t 7)).toNat)
    ⟨by simp only [WS, List.getElem_cons_zero, List.getElem_cons_succ, Option.isNone_some, Option.isNone_none, List.getD_cons_zero, List.getD_cons_succ, I.at, atL, atO, atP, evp, evs, retV, ↓reduceIte, Nat.reduceEqDiff, reduceCtorEq], by simp only [WS, List.getElem_cons_zero, List.getElem_cons_succ, Option.isNone_some, Option.isNone_none, List.getD_cons_zero, List.getD_cons_succ, I.at, atL, atO, atP, evp, evs, retV, ↓reduceIte, Nat.reduceEqDiff, reduceCtorEq], hB, 0, rfl, by omega, rfl⟩ ?_
  rintro t w2 ⟨t0, t6, hB, k, t7, hk, t3⟩
  by_cases hlt : k < 16
  · simp (maxSteps := 1000000) (disch := omega) only [WS, List.getElem_cons_zero, List.getElem_cons_succ, Option.isNone_some, Option.isNone_none, List.getD_cons_zero, List.getD_cons_succ, I.at, atL, atO, atP, evp, evs, retV, ↓reduceIte, Nat.reduceEqDiff, reduceCtorEq, AS, t0, t6, t7, t3, X_ixv, Int.natCast_nonneg, Int.toNat_natCast, basV_get k hlt, show (((k : Int) < ((16 : Nat) : Int)) = True) from eq_true (by omega), X_shr, shr_nat .i64 n k (by show k ≤ 64; omega)]
    have e1 : bitsOp .and .i64 ((n >>> k : Nat) : Int) 1 = (((n >>> k) &&& 1 : Nat) : Int) := bits_and fits_i64 (b := 1) (by rw [Nat.shiftRight_eq_div_pow]; exact Nat.lt_of_le_of_lt (Nat.div_le_self _ _) (Nat.lt_trans hn (by decide))) (by decide)
    rw [e1, and_one_shr]
    by_cases hb : n.testBit k = true
    · rw [if_pos hb]
      simp (maxSteps := 1000000) (disch := omega) only [WS, List.getElem_cons_zero, List.getElem_cons_succ, Option.isNone_some, Option.isNone_none, List.getD_cons_zero, List.getD_cons_succ, I.at, atL, atO, atP, evp, evs, retV, ↓reduceIte, Nat.reduceEqDiff, reduceCtorEq, AS, t0, t6, t7, t3, show decide ((((1 : Nat)) : Int) = 1) = true from rfl]
      refine ⟨⟨hB, k + 1, rfl, by omega, ?_⟩, by omega⟩
      rw [bits_xor fits_u16 (BitVec.isLt _) (BitVec.isLt _), ← BitVec.toNat_xor]
      show _ = Value.int .u16 ((bsum _ k ^^^ sel (n.testBit k) _).toNat : Int)
      rw [hb]; rfl
    · rw [if_neg hb]
      simp (maxSteps := 1000000) (disch := omega) only [WS, List.getElem_cons_zero, List.getElem_cons_succ, Option.isNone_some, Option.isNone_none, List.getD_cons_zero, List.getD_cons_succ, I.at, atL, atO, atP, evp, evs, retV, ↓reduceIte, Nat.reduceEqDiff, reduceCtorEq, AS, t0, t6, t7, t3, show decide ((((0 : Nat)) : Int) = 1) = false from rfl]
      refine ⟨⟨hB, k + 1, rfl, by omega, ?_⟩, by omega⟩
      show _ = Value.int .u16 ((bsum _ k ^^^ sel (n.testBit k) _).toNat : Int)
      rw [Bool.eq_false_iff.2 hb]
      show _ = Value.int .u16 ((bsum _ k ^^^ 0#16).toNat : Int)
      rw [BitVec.xor_zero]
  · obtain rfl : k = 16 := by omega
    simp (maxSteps := 1000000) (disch := omega) only [WS, List.getElem_cons_zero, List.getElem_cons_succ, Option.isNone_some, Option.isNone_none, List.getD_cons_zero, List.getD_cons_succ, I.at, atL, atO, atP, evp, evs, retV, ↓reduceIte, Nat.reduceEqDiff, reduceCtorEq, AS, t0, t6, t7, t3, show decide (((16 : Nat) : Int) < 16) = false from rfl]
    refine ⟨?_, hB⟩
    congr 3
    show _ = bw (BitVec.ofNat 16 n)
    unfold bw
    refine bsum_congr 16 fun i hi => ?_
    congr 1
    rw [BitVec.getLsbD_ofNat]
    simp [hi]
theorem gf16_Element_spec (w : World) (n : Int) : CallV Try.prog 35 [.int .i64 n] w fun v w' => RowKit.Below w.heap.size w w' ∧ ((0 ≤ n ∧ n < 65536 ∧ v = .tuple #[.int .u16 ((wel n.toNat).v.toNat : Int), .int .i64 0]) ∨ (¬ (0 ≤ n ∧ n < 65536) ∧ v = .tuple #[.int .u16 0, .int .i64 31])) := by
  refine run_gf16_Element (by simp) ?_
  simp only [c_gf16_Element, WS, List.getElem_cons_zero, List.getElem_cons_succ, Option.isNone_some, Option.isNone_none, List.getD_cons_zero, List.getD_cons_succ, I.at, atL, atO, atP, evp, evs, retV, ↓reduceIte, Nat.reduceEqDiff, reduceCtorEq]
  by_cases h0 : n < 0
  · simp (maxSteps := 1000000) (disch := omega) only [WS, List.getElem_cons_zero, List.getElem_cons_succ, Option.isNone_some, Option.isNone_none, List.getD_cons_zero, List.getD_cons_succ, I.at, atL, atO, atP, evp, evs, retV, ↓reduceIte, Nat.reduceEqDiff, reduceCtorEq, AS]
    exact ⟨RowKit.Below.refl _ _, Or.inr (by omega)⟩
  obtain ⟨n, rfl⟩ : ∃ m : Nat, n = (m : Int) := ⟨n.toNat, by omega⟩
  by_cases h1 : 65535 < n
  · simp (maxSteps := 1000000) (disch := omega) only [WS, List.getElem_cons_zero, List.getElem_cons_succ, Option.isNone_some, Option.isNone_none, List.getD_cons_zero, List.getD_cons_succ, I.at, atL, atO, atP, evp, evs, retV, ↓reduceIte, Nat.reduceEqDiff, reduceCtorEq, AS]
    exact ⟨RowKit.Below.refl _ _, Or.inr (by omega)⟩
  simp (maxSteps := 1000000) (disch := omega) only [WS, List.getElem_cons_zero, List.getElem_cons_succ, Option.isNone_some, Option.isNone_none, List.getD_cons_zero, List.getD_cons_succ, I.at, atL, atO, atP, evp, evs, retV, ↓reduceIte, Nat.reduceEqDiff, reduceCtorEq, AS]
  refine X_call0 ((gf16_element_spec w n (by omega)).mono ?_)
  rintro _ w1 ⟨rfl, hB⟩
  simp (maxSteps := 1000000) (disch := omega) only [WS, List.getElem_cons_zero, List.getElem_cons_succ, Option.isNone_some, Option.isNone_none, List.getD_cons_zero, List.getD_cons_succ, I.at, atL, atO, atP, evp, evs, retV, ↓reduceIte, Nat.reduceEqDiff, reduceCtorEq, AS, Int.toNat_natCast]
  exact ⟨hB, Or.inl (by omega)⟩
end Go.Proofs.Ytbaljbadlfopgaa.Fw
