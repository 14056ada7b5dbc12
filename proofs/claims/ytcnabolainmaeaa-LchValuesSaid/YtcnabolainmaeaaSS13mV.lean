import Derived.Test.YtcnabolainmaeaaProg
import Derived.Test.YtcnabolainmaeaaFwTV
import Derived.Test.YtcnabolainmaeaaSS13lV
import Derived.Test.YtcnabolainmaeaaSS13dV
set_option linter.all false
set_option linter.unusedVariables false
set_option linter.unusedSimpArgs false
set_option maxRecDepth 100000
set_option maxHeartbeats 1000000
namespace Go.Proofs.Ytcnabolainmaeaa.Fw
open Go Go.Fw Go.Proofs
attribute [local irreducible] stepI
def c_culletref03_Element : C := .seq (.ops [⟨0, (some 2), none, .mov (.c (.int .u16 0)), []⟩, ⟨1, (some 3), none, .mov (.c (.int .i64 0)), []⟩]) (.seq (.seq (.ops [⟨0, (some 7), none, .mov (.t 0), []⟩, ⟨1, (some 8), none, .bin .lss (.t 7) (.c (.int .i64 0)), []⟩, ⟨2, (some 9), none, .mov (.t 8), []⟩, ⟨3, (some 10), (some (9, false)), .mov (.t 0), []⟩, ⟨4, (some 11), (some (9, false)), .bin .gtr (.t 10) (.c (.int .i64 65535)), []⟩, ⟨5, (some 12), none, .pick (.t 9) (.c (.bool true)) (.t 11), []⟩]) (.ite (.t 12) (.seq (.ops [⟨0, (some 2), none, .mov (.c (.int .u16 0)), []⟩, ⟨1, (some 3), none, .mov (.c (.int .i64 31)), []⟩]) .ret) .skip)) (.seq (.ops [⟨0, (some 4), none, .mov (.c (.int .u16 0)), []⟩]) (.seq (.seq (.ops [⟨0, (some 13), none, .call (.c (.func (.func 60) #[] #[])) [], []⟩, ⟨1, (some 14), none, .len (.t 13), []⟩, ⟨2, (some 15), none, .mov (.c (.int .i64 0)), []⟩]) (.block 0 (.loop (.seq (.ops [⟨0, (some 16), none, .bin .lss (.t 15) (.t 14), []⟩]) (.seq (.ite (.t 16) .skip (.exit 0)) (.seq (.block 1 (.seq (.ops [⟨0, (some 17), none, .mov (.t 15), []⟩, ⟨1, (some 18), none, .ixs 1 (.t 13) (.t 15), []⟩, ⟨2, (some 19), none, .ld (.t 18), []⟩, ⟨3, (some 5), none, .mov (.t 17), []⟩, ⟨4, (some 6), none, .mov (.t 19), []⟩]) (.seq (.ops [⟨0, (some 20), none, .mov (.t 0), []⟩, ⟨1, (some 21), none, .mov (.t 5), []⟩, ⟨2, (some 22), none, .cnv .u64 (.t 21), []⟩, ⟨3, (some 23), none, .bin .shr (.t 20) (.t 22), []⟩, ⟨4, (some 24), none, .bin .and (.t 23) (.c (.int .i64 1)), []⟩, ⟨5, (some 25), none, .bin .eql (.t 24) (.c (.int .i64 1)), []⟩]) (.ite (.t 25) (.ops [⟨0, (some 26), none, .mov (.t 4), []⟩, ⟨1, (some 27), none, .mov (.t 6), []⟩, ⟨2, (some 28), none, .bin .xor (.t 26) (.t 27), []⟩, ⟨3, (some 4), none, .mov (.t 28), []⟩]) .skip)))) (.ops [⟨0, (some 29), none, .bin .add (.t 15) (.c (.int .i64 1)), []⟩, ⟨1, (some 15), none, .mov (.t 29), []⟩]))))))) (.seq (.ops [⟨0, (some 30), none, .mov (.t 4), []⟩, ⟨1, (some 2), none, .mov (.t 30), []⟩, ⟨2, (some 3), none, .mov (.c (.int .i64 0)), []⟩]) .ret))))
attribute [irreducible] c_culletref03_Element
theorem run_culletref03_Element {args : List Value} {w : World} {K : Value → World → Prop} (hn : args.length ≤ 31) (h : WP Try.prog c_culletref03_Element (endQ [.t 2, .t 3] K) (initT args) w) : CallV Try.prog 62 args w K :=
  call_of follows Try.func62 (by kernel_rfl) (by kernel_rfl) hn h
def c_culletref03_ElementsTo : C := .seq (.ops [⟨0, (some 2), none, .mov (.c (.slice none 0 0)), []⟩]) (.seq (.ops [⟨0, (some 8), none, .call (.c (.func (.func 60) #[] #[])) [], []⟩, ⟨1, (some 3), none, .mov (.t 8), []⟩]) (.seq (.ops [⟨0, (some 9), none, .mov (.t 0), []⟩, ⟨1, (some 10), none, .cnv .u64 (.t 9), []⟩, ⟨2, (some 11), none, .bin .shl (.c (.int .i64 1)) (.t 10), []⟩, ⟨3, (some 12), none, .mks 22 2 [.int .u16 0] (.c (.int .i64 1)) (.t 11), []⟩, ⟨4, (some 4), none, .mov (.t 12), []⟩]) (.seq (.seq (.ops [⟨0, (some 5), none, .mov (.c (.int .i64 0)), []⟩]) (.block 0 (.loop (.seq (.seq (.ops [⟨0, (some 13), none, .mov (.t 5), []⟩, ⟨1, (some 14), none, .mov (.t 0), []⟩, ⟨2, (some 15), none, .bin .lss (.t 13) (.t 14), []⟩]) (.ite (.t 15) .skip (.exit 0))) (.seq (.block 1 (.seq (.ops [⟨0, (some 18), none, .mov (.t 4), []⟩, ⟨1, (some 19), none, .len (.t 18), []⟩, ⟨2, (some 6), none, .mov (.t 19), []⟩]) (.seq (.ops [⟨0, (some 7), none, .mov (.c (.int .i64 0)), []⟩]) (.block 2 (.loop (.seq (.seq (.ops [⟨0, (some 20), none, .mov (.t 7), []⟩, ⟨1, (some 21), none, .mov (.t 6), []⟩, ⟨2, (some 22), none, .bin .lss (.t 20) (.t 21), []⟩]) (.ite (.t 22) .skip (.exit 2))) (.seq (.block 3 (.dops [⟨0, (some 25), none, .mov (.t 4), []⟩, ⟨1, (some 26), none, .mov (.t 4), []⟩, ⟨2, (some 27), none, .mov (.t 7), []⟩, ⟨3, (some 28), none, .ixs 1 (.t 26) (.t 27), []⟩, ⟨4, (some 29), none, .ld (.t 28), []⟩, ⟨5, (some 30), none, .mov (.t 3), []⟩, ⟨6, (some 31), none, .mov (.t 5), []⟩, ⟨7, (some 32), none, .ixs 1 (.t 30) (.t 31), []⟩, ⟨8, (some 33), none, .ld (.t 32), []⟩, ⟨9, (some 34), none, .bin .xor (.t 29) (.t 33), []⟩, ⟨10, (some 35), none, .bsl 22 1 [.int .u16 0] [(0, (1, .t 34))], []⟩, ⟨11, (some 36), none, .app 22 2 [.int .u16 0] (.t 25) (.t 35), []⟩, ⟨12, (some 4), none, .mov (.t 36), []⟩])) (.ops [⟨0, (some 23), none, .mov (.t 7), []⟩, ⟨1, (some 24), none, .bin .add (.t 23) (.c (.int .i64 1)), []⟩, ⟨2, (some 7), none, .mov (.t 24), []⟩])))))))) (.ops [⟨0, (some 16), none, .mov (.t 5), []⟩, ⟨1, (some 17), none, .bin .add (.t 16) (.c (.int .i64 1)), []⟩, ⟨2, (some 5), none, .mov (.t 17), []⟩])))))) (.seq (.ops [⟨0, (some 37), none, .mov (.t 4), []⟩, ⟨1, (some 2), none, .mov (.t 37), []⟩]) .ret))))
attribute [irreducible] c_culletref03_ElementsTo
theorem run_culletref03_ElementsTo {args : List Value} {w : World} {K : Value → World → Prop} (hn : args.length ≤ 38) (h : WP Try.prog c_culletref03_ElementsTo (endQ [.t 2] K) (initT args) w) : CallV Try.prog 66 args w K :=
  call_of follows Try.func66 (by kernel_rfl) (by kernel_rfl) hn h
end Go.Proofs.Ytcnabolainmaeaa.Fw
namespace Go.Proofs.Ytcnabolainmaeaa.Fw
open Go Go.Fw
theorem wel_cbs : ∀ t < 16, wel (2 ^ t) = ⟨cbs.getD t 0⟩ := by decide +kernel
theorem culletref03_Element_spec (w : World) (n : Int) : CallV Try.prog 62 [.int .i64 n] w fun v w' => RowKit.Below w.heap.size w w' ∧ ((0 ≤ n ∧ n < 65536 ∧ v = .tuple #[.int .u16 ((wel n.toNat).v.toNat : Int), .int .i64 0]) ∨ (¬ (0 ≤ n ∧ n < 65536) ∧ v = .tuple #[.int .u16 0, .int .i64 31])) := by
  refine run_culletref03_Element (by simp) ?_
  simp only [c_culletref03_Element, WS, List.getElem_cons_zero, List.getElem_cons_succ, Option.isNone_some, Option.isNone_none, List.getD_cons_zero, List.getD_cons_succ, I.at, atL, atO, atP, evp, evs, retV, ↓reduceIte, Nat.reduceEqDiff, reduceCtorEq]
  by_cases h0 : n < 0
  · simp (maxSteps := 1000000) (disch := omega) only [WS, List.getElem_cons_zero, List.getElem_cons_succ, Option.isNone_some, Option.isNone_none, List.getD_cons_zero, List.getD_cons_succ, I.at, atL, atO, atP, evp, evs, retV, ↓reduceIte, Nat.reduceEqDiff, reduceCtorEq, AS]
    exact ⟨RowKit.Below.refl _ _, Or.inr (by omega)⟩
  obtain ⟨n, rfl⟩ : ∃ m : Nat, n = (m : Int) := ⟨n.toNat, by omega⟩
  by_cases h1 : 65535 < n
  · simp (maxSteps := 1000000) (disch := omega) only [WS, List.getElem_cons_zero, List.getElem_cons_succ, Option.isNone_some, Option.isNone_none, List.getD_cons_zero, List.getD_cons_succ, I.at, atL, atO, atP, evp, evs, retV, ↓reduceIte, Nat.reduceEqDiff, reduceCtorEq, AS]
    exact ⟨RowKit.Below.refl _ _, Or.inr (by omega)⟩
  simp (maxSteps := 1000000) (disch := omega) only [WS, List.getElem_cons_zero, List.getElem_cons_succ, Option.isNone_some, Option.isNone_none, List.getD_cons_zero, List.getD_cons_succ, I.at, atL, atO, atP, evp, evs, retV, ↓reduceIte, Nat.reduceEqDiff, reduceCtorEq, AS]
  refine X_call0 ((culletref03_Basis_spec w).mono ?_)
  rintro sb w1 ⟨ob, hB⟩
  have ob := ob.sl
  have B := hB
  clear hB
  have l16 := cbl_len 16
  simp (maxSteps := 1000000) (disch := omega) only [WS, List.getElem_cons_zero, List.getElem_cons_succ, Option.isNone_some, Option.isNone_none, List.getD_cons_zero, List.getD_cons_succ, I.at, atL, atO, atP, evp, evs, retV, ↓reduceIte, Nat.reduceEqDiff, reduceCtorEq, AS, ob.Xlen, l16]
  refine loop_of (fun t w' => t 0 = .int .i64 (n : Int) ∧ t 13 = sb ∧ t 14 = .int .i64 ((16 : Nat) : Int) ∧ w' = w1 ∧ ∃ k : Nat, t 15 = .int .i64 (k : Int) ∧ k ≤ 16 ∧ t 4 = .int .u16 ((bsum (fun t => sel (n.testBit t) (cbs.getD t 0)) k).toNat : Int)) (fun t _ => 16 - (toI (t 15)).toNat)
    ⟨by simp only [WS, List.getElem_cons_zero, List.getElem_cons_succ, Option.isNone_some, Option.isNone_none, List.getD_cons_zero, List.getD_cons_succ, I.at, atL, atO, atP, evp, evs, retV, ↓reduceIte, Nat.reduceEqDiff, reduceCtorEq], by simp only [WS, List.getElem_cons_zero, List.getElem_cons_succ, Option.isNone_some, Option.isNone_none, List.getD_cons_zero, List.getD_cons_succ, I.at, atL, atO, atP, evp, evs, retV, ↓reduceIte, Nat.reduceEqDiff, reduceCtorEq], by simp only [WS, List.getElem_cons_zero, List.getElem_cons_succ, Option.isNone_some, Option.isNone_none, List.getD_cons_zero, List.getD_cons_succ, I.at, atL, atO, atP, evp, evs, retV, ↓reduceIte, Nat.reduceEqDiff, reduceCtorEq], rfl, 0, rfl, by omega, rfl⟩ ?_
  rintro t w2 ⟨t0, t13, t14, rfl, k, t15, hk, t4⟩
  by_cases hlt : k < 16
  · have kb : k < (cbl 16).length := by omega
    have hg := cbl_get kb
    have f1 : IntKind.u64.wrap (k : Int) = (k : Int) := wrap_u64 k (by omega)
    have fnn : ((0 : Int) ≤ (k : Int)) = True := eq_true (by omega)
    have e0 := shr_nat .i64 n k (by show k ≤ 64; omega)
    have e1 : bitsOp .and .i64 ((n >>> k : Nat) : Int) 1 = (((n >>> k) &&& 1 : Nat) : Int) := bits_and fits_i64 (b := 1) (by rw [Nat.shiftRight_eq_div_pow]; exact Nat.lt_of_le_of_lt (Nat.div_le_self _ _) (by omega)) (by decide)
    rw [and_one_shr] at e1
    by_cases hb : n.testBit k = true
    · rw [if_pos hb] at e1
      simp (maxSteps := 1000000) (disch := omega) only [WS, List.getElem_cons_zero, List.getElem_cons_succ, Option.isNone_some, Option.isNone_none, List.getD_cons_zero, List.getD_cons_succ, I.at, atL, atO, atP, evp, evs, retV, ↓reduceIte, Nat.reduceEqDiff, reduceCtorEq, AS, t0, t13, t14, t15, t4, ob.Xix kb, ob.Xld kb, hg, cell_e16, f1, X_shr, fnn, e0, e1, show decide ((((1 : Nat)) : Int) = 1) = true from rfl]
      refine ⟨⟨k + 1, rfl, by omega, ?_⟩, by omega⟩
      rw [bits_xor fits_u16 (BitVec.isLt _) (BitVec.isLt _), ← BitVec.toNat_xor]
      show _ = Value.int .u16 ((bsum _ k ^^^ sel (n.testBit k) _).toNat : Int)
      rw [hb]; rfl
    · rw [if_neg hb] at e1
      simp (maxSteps := 1000000) (disch := omega) only [WS, List.getElem_cons_zero, List.getElem_cons_succ, Option.isNone_some, Option.isNone_none, List.getD_cons_zero, List.getD_cons_succ, I.at, atL, atO, atP, evp, evs, retV, ↓reduceIte, Nat.reduceEqDiff, reduceCtorEq, AS, t0, t13, t14, t15, t4, ob.Xix kb, ob.Xld kb, hg, cell_e16, f1, X_shr, fnn, e0, e1, show decide ((((0 : Nat)) : Int) = 1) = false from rfl]
      refine ⟨⟨k + 1, rfl, by omega, ?_⟩, by omega⟩
      show _ = Value.int .u16 ((bsum _ k ^^^ sel (n.testBit k) _).toNat : Int)
      rw [Bool.eq_false_iff.2 hb]
      show _ = Value.int .u16 ((bsum _ k ^^^ 0#16).toNat : Int)
      rw [BitVec.xor_zero]
  · obtain rfl : k = 16 := by omega
    have hx : bsum (fun t => sel (n.testBit t) (cbs.getD t 0)) 16 = (wel n).v := by
      show _ = bw (BitVec.ofNat 16 n)
      unfold bw
      refine bsum_congr 16 fun i hi => ?_
      congr 1
      rw [BitVec.getLsbD_ofNat]
      simp [hi]
    rw [hx] at t4
    simp (maxSteps := 1000000) (disch := omega) only [WS, List.getElem_cons_zero, List.getElem_cons_succ, Option.isNone_some, Option.isNone_none, List.getD_cons_zero, List.getD_cons_succ, I.at, atL, atO, atP, evp, evs, retV, ↓reduceIte, Nat.reduceEqDiff, reduceCtorEq, AS, t0, t13, t14, t15, t4, show decide (((16 : Nat) : Int) < ((16 : Nat) : Int)) = false from rfl, Int.toNat_natCast]
    exact ⟨B, Or.inl ⟨by omega, by omega⟩⟩
def wls (n : Nat) : List (El 16) := (List.range n).map wel
theorem wls_len (n : Nat) : (wls n).length = n := by simp [wls]
theorem wls_get {n i : Nat} (h : i < (wls n).length) : (wls n)[i] = wel i := by simp [wls]
theorem wls_succ (n : Nat) : wls n ++ [wel n] = wls (n + 1) := by unfold wls; rw [List.range_succ, List.map_append]; rfl
theorem culletref03_ElementsTo_spec (w : World) (r : Nat) (hr : r ≤ 16) : CallV Try.prog 66 [.int .i64 (r : Int)] w fun v w' => Ow w.heap.size w' v (wls (2 ^ r)) ∧ RowKit.Below w.heap.size w w' := by
  refine run_culletref03_ElementsTo (by simp) ?_
  simp only [c_culletref03_ElementsTo, WS, List.getElem_cons_zero, List.getElem_cons_succ, Option.isNone_some, Option.isNone_none, List.getD_cons_zero, List.getD_cons_succ, I.at, atL, atO, atP, evp, evs, retV, ↓reduceIte, Nat.reduceEqDiff, reduceCtorEq]
  have h0 := Nat.two_pow_pos r
  have h16 := pow_le16' hr
  refine X_call0 ((culletref03_Basis_spec w).mono ?_)
  rintro sb w1 ⟨ob, hB⟩
  have S1 := hB.size
  have ob := ob.sl
  have B := hB
  clear hB
  have l16 := cbl_len 16
  have f1 : IntKind.u64.wrap (r : Int) = (r : Int) := wrap_u64 r (by omega)
  have fnn : ((0 : Int) ≤ (r : Int)) = True := eq_true (by omega)
  have e1 := shl_one r (by omega)
  simp (maxSteps := 1000000) (disch := omega) only [WS, List.getElem_cons_zero, List.getElem_cons_succ, Option.isNone_some, Option.isNone_none, List.getD_cons_zero, List.getD_cons_succ, I.at, atL, atO, atP, evp, evs, retV, ↓reduceIte, Nat.reduceEqDiff, reduceCtorEq, AS, f1, X_shl, fnn, e1]
  refine X_mksC (x := (0 : El 16)) (n := 1) (c := 2 ^ r) (by omega) (by simp only [maxBytes]; omega) (by omega) fun sv w2 ov hB => ?_
  have ob := ob.up hB
  obtain ⟨bb, hbb, hblt⟩ := ob.blk_lt (by intro e; rw [e] at l16; simp at l16)
  have hne : ∀ b, Fw.blk sv = some b → Fw.blk sb ≠ some b := fun b hb e => by
    have h1 := (ov.blk b hb).1
    obtain ⟨b2, hb2, hlt2⟩ := (show Sl w1 sb (cbl 16) by assumption).blk_lt (by intro e; rw [e] at l16; simp at l16)
    rw [e] at hb2; cases hb2; omega
  have ov := ov.mono S1
  have B := B.trans (hB.mono B.size)
  clear hB
  simp (maxSteps := 1000000) (disch := omega) only [WS, List.getElem_cons_zero, List.getElem_cons_succ, Option.isNone_some, Option.isNone_none, List.getD_cons_zero, List.getD_cons_succ, I.at, atL, atO, atP, evp, evs, retV, ↓reduceIte, Nat.reduceEqDiff, reduceCtorEq, AS]
  refine loop_of (fun t w' => t 0 = .int .i64 (r : Int) ∧ t 3 = sb ∧ RowKit.Below w.heap.size w w' ∧ Sl w' sb (cbl 16) ∧ ∃ (k : Nat) (sv : Value), t 5 = .int .i64 (k : Int) ∧ k ≤ r ∧ t 4 = sv ∧ Ow w.heap.size w' sv (wls (2 ^ k)) ∧ (∀ b, Fw.blk sv = some b → Fw.blk sb ≠ some b)) (fun t _ => r - (toI (t 5)).toNat)
    ⟨by simp only [WS, List.getElem_cons_zero, List.getElem_cons_succ, Option.isNone_some, Option.isNone_none, List.getD_cons_zero, List.getD_cons_succ, I.at, atL, atO, atP, evp, evs, retV, ↓reduceIte, Nat.reduceEqDiff, reduceCtorEq], by simp only [WS, List.getElem_cons_zero, List.getElem_cons_succ, Option.isNone_some, Option.isNone_none, List.getD_cons_zero, List.getD_cons_succ, I.at, atL, atO, atP, evp, evs, retV, ↓reduceIte, Nat.reduceEqDiff, reduceCtorEq], B, ob, 0, sv, rfl, by omega, by simp only [WS, List.getElem_cons_zero, List.getElem_cons_succ, Option.isNone_some, Option.isNone_none, List.getD_cons_zero, List.getD_cons_succ, I.at, atL, atO, atP, evp, evs, retV, ↓reduceIte, Nat.reduceEqDiff, reduceCtorEq], by
      have : List.replicate 1 (0 : El 16) = wls (2 ^ 0) := by show [(0 : El 16)] = [wel 0]; rw [wel_zero]
      rw [this] at ov; exact ov, hne⟩ ?_
  clear B ob ov hne hblt
  rintro t w3 ⟨t0, t3, B, ob, k, sv, t5, hk, t4, ov, hne⟩
  have k0 := Nat.two_pow_pos k
  have k16 := pow_le16' (Nat.le_trans hk hr)
  by_cases hkr : k < r
  · have hkk : 2 ^ (k + 1) = 2 * 2 ^ k := by rw [Nat.pow_succ, Nat.mul_comm]
    simp (maxSteps := 1000000) (disch := omega) only [WS, List.getElem_cons_zero, List.getElem_cons_succ, Option.isNone_some, Option.isNone_none, List.getD_cons_zero, List.getD_cons_succ, I.at, atL, atO, atP, evp, evs, retV, ↓reduceIte, Nat.reduceEqDiff, reduceCtorEq, AS, t0, t3, t4, t5, ov.sl.Xlen, wls_len]
    refine loop_of (fun t w' => t 0 = .int .i64 (r : Int) ∧ t 3 = sb ∧ t 5 = .int .i64 (k : Int) ∧ t 6 = .int .i64 ((2 ^ k : Nat) : Int) ∧ RowKit.Below w.heap.size w w' ∧ Sl w' sb (cbl 16) ∧ ∃ (i : Nat) (sv : Value), t 7 = .int .i64 (i : Int) ∧ i ≤ 2 ^ k ∧ t 4 = sv ∧ Ow w.heap.size w' sv (wls (2 ^ k + i)) ∧ (∀ b, Fw.blk sv = some b → Fw.blk sb ≠ some b)) (fun t _ => 2 ^ k - (toI (t 7)).toNat)
      ⟨by simp only [WS, List.getElem_cons_zero, List.getElem_cons_succ, Option.isNone_some, Option.isNone_none, List.getD_cons_zero, List.getD_cons_succ, I.at, atL, atO, atP, evp, evs, retV, ↓reduceIte, Nat.reduceEqDiff, reduceCtorEq]; exact t0, by simp only [WS, List.getElem_cons_zero, List.getElem_cons_succ, Option.isNone_some, Option.isNone_none, List.getD_cons_zero, List.getD_cons_succ, I.at, atL, atO, atP, evp, evs, retV, ↓reduceIte, Nat.reduceEqDiff, reduceCtorEq]; exact t3, by simp only [WS, List.getElem_cons_zero, List.getElem_cons_succ, Option.isNone_some, Option.isNone_none, List.getD_cons_zero, List.getD_cons_succ, I.at, atL, atO, atP, evp, evs, retV, ↓reduceIte, Nat.reduceEqDiff, reduceCtorEq]; exact t5, by simp only [WS, List.getElem_cons_zero, List.getElem_cons_succ, Option.isNone_some, Option.isNone_none, List.getD_cons_zero, List.getD_cons_succ, I.at, atL, atO, atP, evp, evs, retV, ↓reduceIte, Nat.reduceEqDiff, reduceCtorEq], B, ob, 0, sv, rfl, by omega, by simp only [WS, List.getElem_cons_zero, List.getElem_cons_succ, Option.isNone_some, Option.isNone_none, List.getD_cons_zero, List.getD_cons_succ, I.at, atL, atO, atP, evp, evs, retV, ↓reduceIte, Nat.reduceEqDiff, reduceCtorEq]; exact t4, ov, hne⟩ ?_
    clear t0 t3 t4 t5 B ob ov hne
    rintro t w4 ⟨t0, t3, t5, t6, B, ob, i, sv, t7, hi, t4, ov, hne⟩
    by_cases hik : i < 2 ^ k
    · have iv : i < (wls (2 ^ k + i)).length := by rw [wls_len]; omega
      have kb : k < (cbl 16).length := by omega
      have hgi := wls_get iv
      have hgk := cbl_get kb
      have hx : wel i + (⟨cbs.getD k 0⟩ : El 16) = wel (2 ^ k + i) := by rw [wel_pow_add hik, wel_cbs k (by omega)]; exact El.add_comm _ _
      have hxx : bitsOp .xor .u16 ((wel i).v.toNat : Int) ((cbs.getD k 0).toNat : Int) = ((wel (2 ^ k + i)).v.toNat : Int) := by rw [← hx]; exact xor16 (wel i) ⟨cbs.getD k 0⟩
      simp (maxSteps := 1000000) (disch := omega) only [WS, List.getElem_cons_zero, List.getElem_cons_succ, Option.isNone_some, Option.isNone_none, List.getD_cons_zero, List.getD_cons_succ, I.at, atL, atO, atP, evp, evs, retV, ↓reduceIte, Nat.reduceEqDiff, reduceCtorEq, AS, t0, t3, t4, t5, t6, t7]
      refine WP_dops ?_
      have ovd := ov.sl.drew
      have obd := ob.drew
      simp (maxSteps := 1000000) (disch := omega) only [ES, List.mem_cons, List.not_mem_nil, implies_true, forall_const, WS, List.getElem_cons_zero, List.getElem_cons_succ, Option.isNone_some, Option.isNone_none, List.getD_cons_zero, List.getD_cons_succ, I.at, atL, atO, atP, evp, evs, retV, ↓reduceIte, Nat.reduceEqDiff, reduceCtorEq, AS, t0, t3, t4, t5, t6, t7, ovd.Eix iv, ovd.Eld iv, obd.Eix kb, obd.Eld kb, hgi, hgk, cell_e16, hxx]
      refine E_bsl (zs := [wel (2 ^ k + i)]) (by rfl) (by rfl) fun se w5 oe hB => ?_
      have hB5 : RowKit.Below w4.heap.size w4 w5 := (bel_drew w4).trans hB
      simp (maxSteps := 1000000) (disch := omega) only [ES, List.mem_cons, List.not_mem_nil, implies_true, forall_const, WS, List.getElem_cons_zero, List.getElem_cons_succ, Option.isNone_some, Option.isNone_none, List.getD_cons_zero, List.getD_cons_succ, I.at, atL, atO, atP, evp, evs, retV, ↓reduceIte, Nat.reduceEqDiff, reduceCtorEq, AS, t0, t3, t4, t5, t6, t7]
      refine Ow.Eapp (ov.up hB5) oe.sl (Nat.le_trans B.size hB5.size) (by rw [wls_len]; simp only [List.length_singleton, maxBytes]; omega) (by rw [wls_len]; simp only [List.length_singleton]; omega) fun s6 w6 o6 hg hn => ?_
      rw [wls_succ] at o6
      have hvb := ov.blk
      have ob6 : Sl w6 sb (cbl 16) := (ob.up hB5).grown hg (by
        left
        intro e
        obtain ⟨b, hb, -⟩ := ob.blk_lt (by intro e; rw [e] at l16; simp at l16)
        exact hne b (e ▸ hb) hb)
      have hne6 : ∀ b, Fw.blk s6 = some b → Fw.blk sb ≠ some b := fun b hb => by
        rcases hn with h1 | h1
        · exact hne b (h1 ▸ hb)
        · intro e
          obtain ⟨b2, hb2, hlt2⟩ := ob.blk_lt (by intro e; rw [e] at l16; simp at l16)
          rw [e] at hb2; cases hb2
          have := h1 b hb
          have := hB5.size
          omega
      have B6 := (B.trans (hB5.mono B.size)).grown hg (Nat.le_trans B.size hB5.size) fun b hb => (hvb b hb).1
      simp (maxSteps := 1000000) (disch := omega) only [ES, List.mem_cons, List.not_mem_nil, implies_true, forall_const, WS, List.getElem_cons_zero, List.getElem_cons_succ, Option.isNone_some, Option.isNone_none, List.getD_cons_zero, List.getD_cons_succ, I.at, atL, atO, atP, evp, evs, retV, ↓reduceIte, Nat.reduceEqDiff, reduceCtorEq, AS, t0, t3, t4, t5, t6, t7]
      exact ⟨⟨B6, ob6, i + 1, s6, rfl, by omega, rfl, o6, hne6⟩, by omega⟩
    · obtain rfl : i = 2 ^ k := by omega
      simp (maxSteps := 1000000) (disch := omega) only [WS, List.getElem_cons_zero, List.getElem_cons_succ, Option.isNone_some, Option.isNone_none, List.getD_cons_zero, List.getD_cons_succ, I.at, atL, atO, atP, evp, evs, retV, ↓reduceIte, Nat.reduceEqDiff, reduceCtorEq, AS, t0, t3, t4, t5, t6, t7]
      exact ⟨⟨B, ob, k + 1, sv, rfl, by omega, rfl, by rw [hkk, Nat.two_mul]; exact ov, hne⟩, by omega⟩
  · obtain rfl : k = r := by omega
    simp (maxSteps := 1000000) (disch := omega) only [WS, List.getElem_cons_zero, List.getElem_cons_succ, Option.isNone_some, Option.isNone_none, List.getD_cons_zero, List.getD_cons_succ, I.at, atL, atO, atP, evp, evs, retV, ↓reduceIte, Nat.reduceEqDiff, reduceCtorEq, AS, t0, t3, t4, t5]
    exact ⟨ov, B⟩
end Go.Proofs.Ytcnabolainmaeaa.Fw
