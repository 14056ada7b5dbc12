import Derived.Test.YtpmfeaajpjjfiaaProg
import Derived.Test.YtpmfeaajpjjfiaaFwTA
import Derived.Test.YtpmfeaajpjjfiaaSS14baA
import Derived.Test.YtpmfeaajpjjfiaaFwZA
import Derived.Test.YtpmfeaajpjjfiaaFwPA
import Derived.Test.YtpmfeaajpjjfiaaGfBA
import Derived.Test.YtpmfeaajpjjfiaaSS14rA
set_option linter.all false
set_option linter.unusedVariables false
set_option linter.unusedSimpArgs false
set_option maxRecDepth 100000
set_option maxHeartbeats 1000000
namespace Go.Proofs.Ytpmfeaajpjjfiaa.Fw
open Go Go.Fw Go.Proofs
attribute [local irreducible] stepI
def c_culletref03_Basis : C := .seq (.ops [⟨0, (some 0), none, .mov (.c (.slice none 0 0)), []⟩]) (.seq (.ops [⟨0, (some 5), none, .bsl 31 1 [.int .u16 0] [(0, (1, .c (.int .u16 1)))], []⟩, ⟨1, (some 1), none, .mov (.t 5), []⟩]) (.seq (.seq (.ops [⟨0, (some 2), none, .mov (.c (.int .i64 1)), []⟩]) (.block 0 (.loop (.seq (.seq (.ops [⟨0, (some 6), none, .mov (.t 2), []⟩, ⟨1, (some 7), none, .bin .lss (.t 6) (.c (.int .i64 16)), []⟩]) (.ite (.t 7) .skip (.exit 0))) (.seq (.block 1 (.seq (.ops [⟨0, (some 11), none, .mov (.t 1), []⟩, ⟨1, (some 12), none, .mov (.t 2), []⟩, ⟨2, (some 13), none, .bin .sub (.t 12) (.c (.int .i64 1)), []⟩, ⟨3, (some 14), none, .ixs 1 (.t 11) (.t 13), []⟩, ⟨4, (some 15), none, .ld (.t 14), []⟩, ⟨5, (some 16), none, .call (.c (.func (.func 84) #[] #[])) [.t 15], []⟩, ⟨6, (some 10), none, .mov (.t 16), []⟩, ⟨7, (some 17), none, .ext (.t 10) 0, []⟩, ⟨8, (some 18), none, .ext (.t 10) 1, []⟩, ⟨9, (some 3), none, .mov (.t 17), []⟩, ⟨10, (some 4), none, .mov (.t 18), []⟩]) (.ops [⟨0, (some 19), none, .mov (.t 1), []⟩, ⟨1, (some 20), none, .mov (.t 3), []⟩, ⟨2, (some 21), none, .bsl 31 1 [.int .u16 0] [(0, (1, .t 20))], []⟩, ⟨3, (some 22), none, .app 31 2 [.int .u16 0] (.t 19) (.t 21), []⟩, ⟨4, (some 1), none, .mov (.t 22), []⟩]))) (.ops [⟨0, (some 8), none, .mov (.t 2), []⟩, ⟨1, (some 9), none, .bin .add (.t 8) (.c (.int .i64 1)), []⟩, ⟨2, (some 2), none, .mov (.t 9), []⟩])))))) (.seq (.ops [⟨0, (some 23), none, .mov (.t 1), []⟩, ⟨1, (some 0), none, .mov (.t 23), []⟩]) .ret)))
attribute [irreducible] c_culletref03_Basis
theorem run_culletref03_Basis {args : List Value} {w : World} {K : Value → World → Prop} (hn : args.length ≤ 24) (h : WP Try.prog c_culletref03_Basis (endQ [.t 0] K) (initT args) w) : CallV Try.prog 83 args w K :=
  call_of follows Try.func83 (by kernel_rfl) (by kernel_rfl) hn h
def c_culletref03_Root : C := .seq (.ops [⟨0, (some 2), none, .mov (.c (.int .u16 0)), []⟩, ⟨1, (some 3), none, .mov (.c (.int .i64 0)), []⟩]) (.seq (.ops [⟨0, (some 12), none, .bld (List.replicate 16 (.int .u16 0)) [], []⟩, ⟨1, (some 4), none, .alloc 79 (List.replicate 16 (.int .u16 0)), []⟩, ⟨2, none, none, .stn 16 (.t 4) (.t 12), []⟩]) (.seq (.ops [⟨0, (some 13), none, .bld (List.replicate 16 (.int .u16 0)) [], []⟩, ⟨1, (some 5), none, .alloc 79 (List.replicate 16 (.int .u16 0)), []⟩, ⟨2, none, none, .stn 16 (.t 5) (.t 13), []⟩]) (.seq (.seq (.ops [⟨0, (some 6), none, .mov (.c (.int .i64 1)), []⟩]) (.block 0 (.loop (.seq (.seq (.ops [⟨0, (some 14), none, .mov (.t 6), []⟩, ⟨1, (some 15), none, .bin .lss (.t 14) (.c (.int .i64 16)), []⟩]) (.ite (.t 15) .skip (.exit 0))) (.seq (.block 1 (.seq (.ops [⟨0, (some 18), none, .mov (.t 6), []⟩, ⟨1, (some 19), none, .cnv .u64 (.t 18), []⟩, ⟨2, (some 20), none, .bin .shl (.c (.int .u16 1)) (.t 19), []⟩, ⟨3, (some 7), none, .mov (.t 20), []⟩]) (.seq (.ops [⟨0, (some 21), none, .mov (.t 7), []⟩, ⟨1, (some 22), none, .mov (.t 7), []⟩, ⟨2, (some 23), none, .call (.c (.func (.func 80) #[] #[])) [.t 21, .t 22], []⟩, ⟨3, (some 24), none, .mov (.t 7), []⟩, ⟨4, (some 25), none, .bin .xor (.t 23) (.t 24), []⟩, ⟨5, (some 8), none, .mov (.t 25), []⟩]) (.seq (.ops [⟨0, (some 9), none, .mov (.c (.int .i64 15)), []⟩]) (.block 2 (.loop (.seq (.seq (.ops [⟨0, (some 26), none, .mov (.t 9), []⟩, ⟨1, (some 27), none, .bin .geq (.t 26) (.c (.int .i64 0)), []⟩]) (.ite (.t 27) .skip (.exit 2))) (.seq (.block 3 (.seq (.seq (.ops [⟨0, (some 30), none, .mov (.t 8), []⟩, ⟨1, (some 31), none, .mov (.t 9), []⟩, ⟨2, (some 32), none, .cnv .u64 (.t 31), []⟩, ⟨3, (some 33), none, .bin .shr (.t 30) (.t 32), []⟩, ⟨4, (some 34), none, .bin .and (.t 33) (.c (.int .u16 1)), []⟩, ⟨5, (some 35), none, .bin .eql (.t 34) (.c (.int .u16 0)), []⟩]) (.ite (.t 35) (.exit 3) .skip)) (.seq (.seq (.ops [⟨0, (some 36), none, .mov (.t 9), []⟩, ⟨1, (some 37), none, .ixa 16 1 (.t 4) (.t 36), []⟩, ⟨2, (some 38), none, .ld (.t 37), []⟩, ⟨3, (some 39), none, .bin .eql (.t 38) (.c (.int .u16 0)), []⟩]) (.ite (.t 39) (.seq (.ops [⟨0, (some 40), none, .mov (.t 9), []⟩, ⟨1, (some 41), none, .mov (.t 8), []⟩, ⟨2, (some 42), none, .ixa 16 1 (.t 4) (.t 40), []⟩, ⟨3, none, none, .st (.t 42) (.t 41), []⟩]) (.seq (.ops [⟨0, (some 43), none, .mov (.t 9), []⟩, ⟨1, (some 44), none, .mov (.t 7), []⟩, ⟨2, (some 45), none, .ixa 16 1 (.t 5) (.t 43), []⟩, ⟨3, none, none, .st (.t 45) (.t 44), []⟩]) (.exit 2))) .skip)) (.seq (.ops [⟨0, (some 46), none, .mov (.t 8), []⟩, ⟨1, (some 47), none, .mov (.t 9), []⟩, ⟨2, (some 48), none, .ixa 16 1 (.t 4) (.t 47), []⟩, ⟨3, (some 49), none, .ld (.t 48), []⟩, ⟨4, (some 50), none, .bin .xor (.t 46) (.t 49), []⟩, ⟨5, (some 8), none, .mov (.t 50), []⟩]) (.ops [⟨0, (some 51), none, .mov (.t 7), []⟩, ⟨1, (some 52), none, .mov (.t 9), []⟩, ⟨2, (some 53), none, .ixa 16 1 (.t 5) (.t 52), []⟩, ⟨3, (some 54), none, .ld (.t 53), []⟩, ⟨4, (some 55), none, .bin .xor (.t 51) (.t 54), []⟩, ⟨5, (some 7), none, .mov (.t 55), []⟩]))))) (.ops [⟨0, (some 28), none, .mov (.t 9), []⟩, ⟨1, (some 29), none, .bin .sub (.t 28) (.c (.int .i64 1)), []⟩, ⟨2, (some 9), none, .mov (.t 29), []⟩]))))))))) (.ops [⟨0, (some 16), none, .mov (.t 6), []⟩, ⟨1, (some 17), none, .bin .add (.t 16) (.c (.int .i64 1)), []⟩, ⟨2, (some 6), none, .mov (.t 17), []⟩])))))) (.seq (.ops [⟨0, (some 10), none, .mov (.c (.int .u16 0)), []⟩]) (.seq (.seq (.ops [⟨0, (some 11), none, .mov (.c (.int .i64 15)), []⟩]) (.block 4 (.loop (.seq (.seq (.ops [⟨0, (some 56), none, .mov (.t 11), []⟩, ⟨1, (some 57), none, .bin .geq (.t 56) (.c (.int .i64 0)), []⟩]) (.ite (.t 57) .skip (.exit 4))) (.seq (.block 5 (.seq (.ops [⟨0, (some 60), none, .mov (.t 0), []⟩, ⟨1, (some 61), none, .mov (.t 11), []⟩, ⟨2, (some 62), none, .cnv .u64 (.t 61), []⟩, ⟨3, (some 63), none, .bin .shr (.t 60) (.t 62), []⟩, ⟨4, (some 64), none, .bin .and (.t 63) (.c (.int .u16 1)), []⟩, ⟨5, (some 65), none, .bin .eql (.t 64) (.c (.int .u16 1)), []⟩]) (.ite (.t 65) (.seq (.seq (.ops [⟨0, (some 66), none, .mov (.t 11), []⟩, ⟨1, (some 67), none, .ixa 16 1 (.t 4) (.t 66), []⟩, ⟨2, (some 68), none, .ld (.t 67), []⟩, ⟨3, (some 69), none, .bin .eql (.t 68) (.c (.int .u16 0)), []⟩]) (.ite (.t 69) (.seq (.ops [⟨0, (some 2), none, .mov (.c (.int .u16 0)), []⟩, ⟨1, (some 3), none, .mov (.c (.int .i64 30)), []⟩]) .ret) .skip)) (.seq (.ops [⟨0, (some 70), none, .mov (.t 0), []⟩, ⟨1, (some 71), none, .mov (.t 11), []⟩, ⟨2, (some 72), none, .ixa 16 1 (.t 4) (.t 71), []⟩, ⟨3, (some 73), none, .ld (.t 72), []⟩, ⟨4, (some 74), none, .bin .xor (.t 70) (.t 73), []⟩, ⟨5, (some 0), none, .mov (.t 74), []⟩]) (.ops [⟨0, (some 75), none, .mov (.t 10), []⟩, ⟨1, (some 76), none, .mov (.t 11), []⟩, ⟨2, (some 77), none, .ixa 16 1 (.t 5) (.t 76), []⟩, ⟨3, (some 78), none, .ld (.t 77), []⟩, ⟨4, (some 79), none, .bin .xor (.t 75) (.t 78), []⟩, ⟨5, (some 10), none, .mov (.t 79), []⟩]))) .skip))) (.ops [⟨0, (some 58), none, .mov (.t 11), []⟩, ⟨1, (some 59), none, .bin .sub (.t 58) (.c (.int .i64 1)), []⟩, ⟨2, (some 11), none, .mov (.t 59), []⟩])))))) (.seq (.ops [⟨0, (some 80), none, .mov (.t 10), []⟩, ⟨1, (some 2), none, .mov (.t 80), []⟩, ⟨2, (some 3), none, .mov (.c (.int .i64 0)), []⟩]) .ret))))))
attribute [irreducible] c_culletref03_Root
theorem run_culletref03_Root {args : List Value} {w : World} {K : Value → World → Prop} (hn : args.length ≤ 81) (h : WP Try.prog c_culletref03_Root (endQ [.t 2, .t 3] K) (initT args) w) : CallV Try.prog 84 args w K :=
  call_of follows Try.func84 (by kernel_rfl) (by kernel_rfl) hn h
end Go.Proofs.Ytpmfeaajpjjfiaa.Fw
namespace Go.Proofs.Ytpmfeaajpjjfiaa.Fw
open Go Go.Fw
theorem arr_get {m : List (El 16)} {h : Nat} (hl : m.length = 16) (hh : h < 16) : ∃ hlt : h < (m.map (Cell.v : El 16 → Value)).length, (m.map (Cell.v : El 16 → Value))[h] = .int .u16 ((m.getD h 0).v.toNat : Int) := by
  refine ⟨by simp; omega, ?_⟩
  rw [List.getElem_map, List.getD_eq_getElem?_getD, List.getElem?_eq_getElem (by omega)]; rfl
theorem imgI_len : ∀ (h : Nat) (s : List (El 16) × List (El 16)) (v y : El 16), (imgI h s v y).1.length = s.1.length ∧ (imgI h s v y).2.length = s.2.length
  | 0, s, v, y => ⟨rfl, rfl⟩
  | h + 1, s, v, y => by
    unfold imgI
    split
    · split
      · exact ⟨by simp, by simp⟩
      · exact imgI_len h s _ _
    · exact imgI_len h s v y
set_option maxHeartbeats 4000000 in
theorem culletref03_Root_spec (w : World) (a r : El 16) (hroot : rootI 16 imgZ a 0 = some r) : CallV Try.prog 84 [.int .u16 (a.v.toNat : Int)] w fun v w' => v = .tuple #[.int .u16 (r.v.toNat : Int), .int .i64 0] ∧ RowKit.Below w.heap.size w w' := by
  refine run_culletref03_Root (by simp) ?_
  have hz : List.replicate 16 (Value.int .u16 0) = (List.replicate 16 (0 : El 16)).map (Cell.v : El 16 → Value) := rfl
  have hzs : ∀ u ∈ List.replicate 16 (Value.int .u16 0), scal u = true := fun u hu => by rw [(List.mem_replicate.1 hu).2]; rfl
  have hzl : (List.replicate 16 (Value.int .u16 0)).length = 16 := List.length_replicate ..
  unfold c_culletref03_Root
  generalize hZ : List.replicate 16 (Value.int .u16 0) = z at hz hzs hzl
  have hbld : fillL z (evp tz []) = some z := rfl
  simp only [WS, List.getElem_cons_zero, List.getElem_cons_succ, Option.isNone_some, Option.isNone_none, List.getD_cons_zero, List.getD_cons_succ, I.at, atL, atO, atP, evp, evs, retV, ↓reduceIte, Nat.reduceEqDiff, reduceCtorEq]
  refine X_alloc fun b4 w1 r4 hb4 hB => ?_
  have B := hB
  clear hB
  simp (maxSteps := 1000000) (disch := omega) only [WS, List.getElem_cons_zero, List.getElem_cons_succ, Option.isNone_some, Option.isNone_none, List.getD_cons_zero, List.getD_cons_succ, I.at, atL, atO, atP, evp, evs, retV, ↓reduceIte, Nat.reduceEqDiff, reduceCtorEq, AS, X_bldE hbld]
  refine Row.Xstn (vs := z) r4 hzl hzs hzl fun w2 r4 hg => ?_
  have B := B.grown hg B.size fun b hb => by cases hb; exact hb4
  clear hg
  have hb4s := row_lt r4
  simp (maxSteps := 1000000) (disch := omega) only [WS, List.getElem_cons_zero, List.getElem_cons_succ, Option.isNone_some, Option.isNone_none, List.getD_cons_zero, List.getD_cons_succ, I.at, atL, atO, atP, evp, evs, retV, ↓reduceIte, Nat.reduceEqDiff, reduceCtorEq, AS]
  refine X_alloc fun b5 w3 r5 hb5 hB => ?_
  have r4 := r4.up hB
  have S2 := B.size
  have B := B.trans (hB.mono B.size)
  clear hB
  simp (maxSteps := 1000000) (disch := omega) only [WS, List.getElem_cons_zero, List.getElem_cons_succ, Option.isNone_some, Option.isNone_none, List.getD_cons_zero, List.getD_cons_succ, I.at, atL, atO, atP, evp, evs, retV, ↓reduceIte, Nat.reduceEqDiff, reduceCtorEq, AS, X_bldE hbld]
  refine Row.Xstn (vs := z) r5 hzl hzs hzl fun w4 r5 hg => ?_
  have hne : b4 ≠ b5 := by omega
  have r4 := r4.grown hg (by intro e; cases e; exact hne rfl)
  have B := B.grown hg B.size fun b hb => by cases hb; omega
  clear hg hb4s
  simp (maxSteps := 1000000) (disch := omega) only [WS, List.getElem_cons_zero, List.getElem_cons_succ, Option.isNone_some, Option.isNone_none, List.getD_cons_zero, List.getD_cons_succ, I.at, atL, atO, atP, evp, evs, retV, ↓reduceIte, Nat.reduceEqDiff, reduceCtorEq, AS]
  rw [hz] at r4 r5
  have hb5' : w.heap.size ≤ b5 := by omega
  clear hz hzs hzl hbld
  refine loop_of (fun t w' => t 0 = .int .u16 (a.v.toNat : Int) ∧ t 4 = .pointer (some ⟨b4, 0, none⟩) ∧ t 5 = .pointer (some ⟨b5, 0, none⟩) ∧ RowKit.Below w.heap.size w w' ∧ ∃ (m : Nat) (s : List (El 16) × List (El 16)), t 6 = .int .i64 ((16 - m : Nat) : Int) ∧ m ≤ 15 ∧ Row w' b4 (s.1.map Cell.v) ∧ Row w' b5 (s.2.map Cell.v) ∧ s.1.length = 16 ∧ s.2.length = 16 ∧ imgs m s = imgZ) (fun t _ => 16 - (toI (t 6)).toNat)
    ⟨by simp only [WS, List.getElem_cons_zero, List.getElem_cons_succ, Option.isNone_some, Option.isNone_none, List.getD_cons_zero, List.getD_cons_succ, I.at, atL, atO, atP, evp, evs, retV, ↓reduceIte, Nat.reduceEqDiff, reduceCtorEq], by simp only [WS, List.getElem_cons_zero, List.getElem_cons_succ, Option.isNone_some, Option.isNone_none, List.getD_cons_zero, List.getD_cons_succ, I.at, atL, atO, atP, evp, evs, retV, ↓reduceIte, Nat.reduceEqDiff, reduceCtorEq], by simp only [WS, List.getElem_cons_zero, List.getElem_cons_succ, Option.isNone_some, Option.isNone_none, List.getD_cons_zero, List.getD_cons_succ, I.at, atL, atO, atP, evp, evs, retV, ↓reduceIte, Nat.reduceEqDiff, reduceCtorEq], B, 15, (List.replicate 16 0, List.replicate 16 0), rfl, by omega, r4, r5, by simp, by simp, rfl⟩ ?_
  clear B r4 r5 S2
  rintro t w5 ⟨t0, t4, t5, B, m, s, t6, hm, r4, r5, l4, l5, hs⟩
  cases m with
  | succ m =>
    have e6 : (16 - (m + 1) : Nat) = 15 - m := by omega
    rw [e6] at t6
    have e1 : IntKind.u64.wrap ((15 - m : Nat) : Int) = ((15 - m : Nat) : Int) := wrap_u64 _ (by omega)
    have hnn : ((0 : Int) ≤ ((15 - m : Nat) : Int)) = True := eq_true (by omega)
    have hy : ∃ y : El 16, y = ⟨be 16 (15 - m)⟩ := ⟨_, rfl⟩
    obtain ⟨y0, hy0⟩ := hy
    have e2 : shlV .u16 1 ((15 - m : Nat) : Int) = (y0.v.toNat : Int) := by
      have hlt : 2 ^ (15 - m) < 2 ^ 16 := Nat.pow_lt_pow_right (by omega) (by omega)
      have := shl_nat fits_u16 1 (15 - m) (by show 15 - m ≤ 16; omega) (by rw [Nat.one_mul]; exact hlt)
      rw [show (1 : Int) = ((1 : Nat) : Int) from rfl, this, Nat.one_shiftLeft, hy0]
      show _ = (((1#16 <<< (15 - m)).toNat : Nat) : Int)
      rw [BitVec.toNat_shiftLeft, show (1#16).toNat = 1 from rfl, Nat.one_shiftLeft, Nat.mod_eq_of_lt hlt]
    have e16 : ((15 - m : Nat) : Int) < 16 := by omega
    simp (maxSteps := 1000000) (disch := omega) only [WS, List.getElem_cons_zero, List.getElem_cons_succ, Option.isNone_some, Option.isNone_none, List.getD_cons_zero, List.getD_cons_succ, I.at, atL, atO, atP, evp, evs, retV, ↓reduceIte, Nat.reduceEqDiff, reduceCtorEq, t0, t4, t5, t6, decide_eq_true e16, X_shl, hnn, e1, e2]
    refine X_call0 ((culletref03_Mul_spec w5 y0 y0).mono ?_)
    rintro _ w6 ⟨rfl, rfl⟩
    simp (maxSteps := 1000000) (disch := omega) only [WS, List.getElem_cons_zero, List.getElem_cons_succ, Option.isNone_some, Option.isNone_none, List.getD_cons_zero, List.getD_cons_succ, I.at, atL, atO, atP, evp, evs, retV, ↓reduceIte, Nat.reduceEqDiff, reduceCtorEq, AS, t0, t4, t5, t6, xor16]
    have hS : imgs m (imgI 16 s (y0 * y0 + y0) y0) = imgZ := by rw [hy0]; exact hs
    generalize hS1 : imgI 16 s (y0 * y0 + y0) y0 = S1 at hS
    have hl1 : S1.1.length = 16 ∧ S1.2.length = 16 := by rw [← hS1]; exact ⟨(imgI_len _ _ _ _).1.trans l4, (imgI_len _ _ _ _).2.trans l5⟩
    refine loop_of (fun t w' => t 0 = .int .u16 (a.v.toNat : Int) ∧ t 4 = .pointer (some ⟨b4, 0, none⟩) ∧ t 5 = .pointer (some ⟨b5, 0, none⟩) ∧ t 6 = .int .i64 ((15 - m : Nat) : Int) ∧ w' = w6 ∧ ∃ (h : Nat) (v y : El 16), t 9 = .int .i64 ((h : Int) - 1) ∧ h ≤ 16 ∧ t 8 = .int .u16 (v.v.toNat : Int) ∧ t 7 = .int .u16 (y.v.toNat : Int) ∧ imgI h s v y = S1) (fun t _ => (toI (t 9) + 1).toNat)
      ⟨by simp only [WS, List.getElem_cons_zero, List.getElem_cons_succ, Option.isNone_some, Option.isNone_none, List.getD_cons_zero, List.getD_cons_succ, I.at, atL, atO, atP, evp, evs, retV, ↓reduceIte, Nat.reduceEqDiff, reduceCtorEq]; exact t0, by simp only [WS, List.getElem_cons_zero, List.getElem_cons_succ, Option.isNone_some, Option.isNone_none, List.getD_cons_zero, List.getD_cons_succ, I.at, atL, atO, atP, evp, evs, retV, ↓reduceIte, Nat.reduceEqDiff, reduceCtorEq]; exact t4, by simp only [WS, List.getElem_cons_zero, List.getElem_cons_succ, Option.isNone_some, Option.isNone_none, List.getD_cons_zero, List.getD_cons_succ, I.at, atL, atO, atP, evp, evs, retV, ↓reduceIte, Nat.reduceEqDiff, reduceCtorEq]; exact t5, by simp only [WS, List.getElem_cons_zero, List.getElem_cons_succ, Option.isNone_some, Option.isNone_none, List.getD_cons_zero, List.getD_cons_succ, I.at, atL, atO, atP, evp, evs, retV, ↓reduceIte, Nat.reduceEqDiff, reduceCtorEq]; exact t6, rfl, 16, _, y0, rfl, by omega, rfl, by simp only [WS, List.getElem_cons_zero, List.getElem_cons_succ, Option.isNone_some, Option.isNone_none, List.getD_cons_zero, List.getD_cons_succ, I.at, atL, atO, atP, evp, evs, retV, ↓reduceIte, Nat.reduceEqDiff, reduceCtorEq], hS1⟩ ?_
    clear t0 t4 t5 t6
    rintro t w7 ⟨t0, t4, t5, t6, rfl, h, v, y, t9, hh, t8, t7, hi⟩
    have e7 : IntKind.i64.wrap (((15 - m : Nat) : Int) + 1) = ((16 - m : Nat) : Int) := by rw [wrap_id (by omega) (by omega)]; omega
    cases h with
    | zero =>
      simp (maxSteps := 1000000) only [WS, List.getElem_cons_zero, List.getElem_cons_succ, Option.isNone_some, Option.isNone_none, List.getD_cons_zero, List.getD_cons_succ, I.at, atL, atO, atP, evp, evs, retV, ↓reduceIte, Nat.reduceEqDiff, reduceCtorEq, t0, t4, t5, t6, t7, t8, t9, show decide ((0 : Int) ≤ ((0 : Nat) : Int) - 1) = false from rfl, e7, toI_int]
      refine ⟨⟨B, m, s, rfl, by omega, r4, r5, l4, l5, ?_⟩, by omega⟩
      rw [← hS, ← hi]; rfl
    | succ h =>
      rw [show ((h + 1 : Nat) : Int) - 1 = (h : Int) by omega] at t9
      have hh16 : h < 16 := by omega
      have f1 : IntKind.u64.wrap (h : Int) = (h : Int) := wrap_u64 h (by omega)
      have f2 := bit_u16 v.v h (by omega)
      have f3 : IntKind.i64.wrap ((h : Int) - 1) = (h : Int) - 1 := wrap_id (by omega) (by omega)
      have fnn : ((0 : Int) ≤ (h : Int)) = True := eq_true (by omega)
      have fd : decide ((0 : Int) ≤ (h : Int)) = true := decide_eq_true (by omega)
      by_cases hb : v.v.getLsbD h = true
      · rw [if_pos hb] at f2
        obtain ⟨g4, c4⟩ := arr_get l4 hh16
        obtain ⟨g5, c5⟩ := arr_get l5 hh16
        have hi' : imgI (h + 1) s v y = if s.1.getD h 0 = 0 then (s.1.set h v, s.2.set h y) else imgI h s (v + s.1.getD h 0) (y + s.2.getD h 0) := by
          show (if v.v.getLsbD h then _ else _) = _
          rw [if_pos hb]
        rw [hi'] at hi
        by_cases hz : s.1.getD h 0 = 0
        · rw [if_pos hz] at hi
          have dz : decide (((s.1.getD h 0).v.toNat : Int) = 0) = true := decide_eq_true ((el_zero _).mpr hz)
          simp (maxSteps := 1000000) only [WS, List.getElem_cons_zero, List.getElem_cons_succ, Option.isNone_some, Option.isNone_none, List.getD_cons_zero, List.getD_cons_succ, I.at, atL, atO, atP, evp, evs, retV, ↓reduceIte, Nat.reduceEqDiff, reduceCtorEq, t0, t4, t5, t6, t7, t8, t9, fd, f1, f2, X_shr, fnn, show decide ((1 : Int) = 0) = false from rfl, X_ixa hh16, addr_add0, Nat.mul_one, Nat.zero_add, r4.Xld g4, c4, dz]
          refine Row.Xst r4 g4 (v := .int .u16 (v.v.toNat : Int)) rfl fun w8 r4' hg4 => ?_
          have r5' := r5.grown hg4 (by intro e; cases e; exact hne rfl)
          simp (maxSteps := 1000000) only [WS, List.getElem_cons_zero, List.getElem_cons_succ, Option.isNone_some, Option.isNone_none, List.getD_cons_zero, List.getD_cons_succ, I.at, atL, atO, atP, evp, evs, retV, ↓reduceIte, Nat.reduceEqDiff, reduceCtorEq, t0, t4, t5, t6, t7, t8, t9, X_ixa hh16, addr_add0, Nat.mul_one, Nat.zero_add]
          refine Row.Xst r5' g5 (v := .int .u16 (y.v.toNat : Int)) rfl fun w9 r5'' hg5 => ?_
          have r4'' := r4'.grown hg5 (by intro e; cases e; exact hne rfl)
          simp (maxSteps := 1000000) only [WS, List.getElem_cons_zero, List.getElem_cons_succ, Option.isNone_some, Option.isNone_none, List.getD_cons_zero, List.getD_cons_succ, I.at, atL, atO, atP, evp, evs, retV, ↓reduceIte, Nat.reduceEqDiff, reduceCtorEq, t0, t4, t5, t6, t7, t8, t9, e7, toI_int]
          refine ⟨⟨(B.grown hg4 B.size fun b hb => by cases hb; exact hb4).grown hg5 (Nat.le_trans B.size hg4.size) fun b hb => by cases hb; exact hb5', m, (s.1.set h v, s.2.set h y), rfl, by omega, ?_, ?_, by simpa using l4, by simpa using l5, ?_⟩, by omega⟩
          · rw [List.map_set]; exact r4''
          · rw [List.map_set]; exact r5''
          · rw [hi]; exact hS
        · rw [if_neg hz] at hi
          have dz : decide (((s.1.getD h 0).v.toNat : Int) = 0) = false := decide_eq_false (fun e => hz ((el_zero _).mp e))
          simp (maxSteps := 1000000) only [WS, List.getElem_cons_zero, List.getElem_cons_succ, Option.isNone_some, Option.isNone_none, List.getD_cons_zero, List.getD_cons_succ, I.at, atL, atO, atP, evp, evs, retV, ↓reduceIte, Nat.reduceEqDiff, reduceCtorEq, t0, t4, t5, t6, t7, t8, t9, fd, f1, f2, X_shr, fnn, show decide ((1 : Int) = 0) = false from rfl, X_ixa hh16, addr_add0, Nat.mul_one, Nat.zero_add, r4.Xld g4, r5.Xld g5, c4, c5, dz, xor16, f3, toI_int]
          exact ⟨⟨h, _, _, rfl, by omega, rfl, rfl, hi⟩, by omega⟩
      · rw [if_neg hb] at f2
        have hi' : imgI (h + 1) s v y = imgI h s v y := by
          show (if v.v.getLsbD h then _ else _) = _
          rw [if_neg hb]
        rw [hi'] at hi
        simp (maxSteps := 1000000) only [WS, List.getElem_cons_zero, List.getElem_cons_succ, Option.isNone_some, Option.isNone_none, List.getD_cons_zero, List.getD_cons_succ, I.at, atL, atO, atP, evp, evs, retV, ↓reduceIte, Nat.reduceEqDiff, reduceCtorEq, t0, t4, t5, t6, t7, t8, t9, fd, f1, f2, X_shr, fnn, show decide ((0 : Int) = 0) = true from rfl, f3, toI_int]
        exact ⟨⟨h, v, y, rfl, by omega, rfl, rfl, hi⟩, by omega⟩
  | zero =>
    have hs' : s = imgZ := hs
    rw [← hs'] at hroot
    clear hs
    simp (maxSteps := 1000000) only [WS, List.getElem_cons_zero, List.getElem_cons_succ, Option.isNone_some, Option.isNone_none, List.getD_cons_zero, List.getD_cons_succ, I.at, atL, atO, atP, evp, evs, retV, ↓reduceIte, Nat.reduceEqDiff, reduceCtorEq, t0, t4, t5, t6, show decide (((16 - 0 : Nat) : Int) < 16) = false from rfl]
    refine loop_of (fun t w' => t 4 = .pointer (some ⟨b4, 0, none⟩) ∧ t 5 = .pointer (some ⟨b5, 0, none⟩) ∧ w' = w5 ∧ ∃ (h : Nat) (x y : El 16), t 11 = .int .i64 ((h : Int) - 1) ∧ h ≤ 16 ∧ t 0 = .int .u16 (x.v.toNat : Int) ∧ t 10 = .int .u16 (y.v.toNat : Int) ∧ rootI h s x y = some r) (fun t _ => (toI (t 11) + 1).toNat)
      ⟨by simp only [WS, List.getElem_cons_zero, List.getElem_cons_succ, Option.isNone_some, Option.isNone_none, List.getD_cons_zero, List.getD_cons_succ, I.at, atL, atO, atP, evp, evs, retV, ↓reduceIte, Nat.reduceEqDiff, reduceCtorEq]; exact t4, by simp only [WS, List.getElem_cons_zero, List.getElem_cons_succ, Option.isNone_some, Option.isNone_none, List.getD_cons_zero, List.getD_cons_succ, I.at, atL, atO, atP, evp, evs, retV, ↓reduceIte, Nat.reduceEqDiff, reduceCtorEq]; exact t5, rfl, 16, a, 0, rfl, by omega, by simp only [WS, List.getElem_cons_zero, List.getElem_cons_succ, Option.isNone_some, Option.isNone_none, List.getD_cons_zero, List.getD_cons_succ, I.at, atL, atO, atP, evp, evs, retV, ↓reduceIte, Nat.reduceEqDiff, reduceCtorEq]; exact t0, rfl, hroot⟩ ?_
    clear t0 t4 t5 t6 hroot
    rintro t w7 ⟨t4, t5, rfl, h, x, y, t11, hh, t0, t10, hr⟩
    cases h with
    | zero =>
      obtain rfl : y = r := Option.some.inj hr
      simp (maxSteps := 1000000) only [WS, List.getElem_cons_zero, List.getElem_cons_succ, Option.isNone_some, Option.isNone_none, List.getD_cons_zero, List.getD_cons_succ, I.at, atL, atO, atP, evp, evs, retV, ↓reduceIte, Nat.reduceEqDiff, reduceCtorEq, t0, t4, t5, t10, t11, show decide ((0 : Int) ≤ ((0 : Nat) : Int) - 1) = false from rfl]
      exact B
    | succ h =>
      rw [show ((h + 1 : Nat) : Int) - 1 = (h : Int) by omega] at t11
      have hh16 : h < 16 := by omega
      have f1 : IntKind.u64.wrap (h : Int) = (h : Int) := wrap_u64 h (by omega)
      have f2 := bit_u16 x.v h (by omega)
      have f3 : IntKind.i64.wrap ((h : Int) - 1) = (h : Int) - 1 := wrap_id (by omega) (by omega)
      have fnn : ((0 : Int) ≤ (h : Int)) = True := eq_true (by omega)
      have fd : decide ((0 : Int) ≤ (h : Int)) = true := decide_eq_true (by omega)
      by_cases hb : x.v.getLsbD h = true
      · rw [if_pos hb] at f2
        obtain ⟨g4, c4⟩ := arr_get l4 hh16
        obtain ⟨g5, c5⟩ := arr_get l5 hh16
        have hr' : rootI (h + 1) s x y = if s.1.getD h 0 = 0 then none else rootI h s (x + s.1.getD h 0) (y + s.2.getD h 0) := by
          show (if x.v.getLsbD h then _ else _) = _
          rw [if_pos hb]
        rw [hr'] at hr
        by_cases hz : s.1.getD h 0 = 0
        · rw [if_pos hz] at hr; cases hr
        · rw [if_neg hz] at hr
          have dz : decide (((s.1.getD h 0).v.toNat : Int) = 0) = false := decide_eq_false (fun e => hz ((el_zero _).mp e))
          simp (maxSteps := 1000000) only [WS, List.getElem_cons_zero, List.getElem_cons_succ, Option.isNone_some, Option.isNone_none, List.getD_cons_zero, List.getD_cons_succ, I.at, atL, atO, atP, evp, evs, retV, ↓reduceIte, Nat.reduceEqDiff, reduceCtorEq, t0, t4, t5, t10, t11, fd, f1, f2, X_shr, fnn, show decide ((1 : Int) = 1) = true from rfl, X_ixa hh16, addr_add0, Nat.mul_one, Nat.zero_add, r4.Xld g4, r5.Xld g5, c4, c5, dz, xor16, f3, toI_int]
          exact ⟨⟨h, _, _, rfl, by omega, rfl, rfl, hr⟩, by omega⟩
      · rw [if_neg hb] at f2
        have hr' : rootI (h + 1) s x y = rootI h s x y := by
          show (if x.v.getLsbD h then _ else _) = _
          rw [if_neg hb]
        rw [hr'] at hr
        simp (maxSteps := 1000000) only [WS, List.getElem_cons_zero, List.getElem_cons_succ, Option.isNone_some, Option.isNone_none, List.getD_cons_zero, List.getD_cons_succ, I.at, atL, atO, atP, evp, evs, retV, ↓reduceIte, Nat.reduceEqDiff, reduceCtorEq, t0, t4, t5, t10, t11, fd, f1, f2, X_shr, fnn, show decide ((0 : Int) = 1) = false from rfl, f3, toI_int]
        exact ⟨⟨h, x, y, rfl, by omega, rfl, rfl, hr⟩, by omega⟩
def cbl (i : Nat) : List (El 16) := (List.range i).map fun t => ⟨cbs.getD t 0⟩
theorem cbl_len (i : Nat) : (cbl i).length = i := by simp [cbl]
theorem cbl_get {i t : Nat} (h : t < (cbl i).length) : (cbl i)[t] = ⟨cbs.getD t 0⟩ := by simp [cbl]
theorem culletref03_Basis_spec (w : World) : CallV Try.prog 83 [] w fun v w' => Ow w.heap.size w' v (cbl 16) ∧ RowKit.Below w.heap.size w w' := by
  refine run_culletref03_Basis (by simp) ?_
  simp only [c_culletref03_Basis, WS, List.getElem_cons_zero, List.getElem_cons_succ, Option.isNone_some, Option.isNone_none, List.getD_cons_zero, List.getD_cons_succ, I.at, atL, atO, atP, evp, evs, retV, ↓reduceIte, Nat.reduceEqDiff, reduceCtorEq]
  refine X_bsl (zs := [(1 : El 16)]) (by rfl) (by rfl) fun sv w1 ov hB => ?_
  have B := hB
  clear hB
  simp (maxSteps := 1000000) (disch := omega) only [WS, List.getElem_cons_zero, List.getElem_cons_succ, Option.isNone_some, Option.isNone_none, List.getD_cons_zero, List.getD_cons_succ, I.at, atL, atO, atP, evp, evs, retV, ↓reduceIte, Nat.reduceEqDiff, reduceCtorEq, AS]
  refine loop_of (fun t w' => RowKit.Below w.heap.size w w' ∧ ∃ (i : Nat) (sv : Value), t 2 = .int .i64 (i : Int) ∧ 1 ≤ i ∧ i ≤ 16 ∧ t 1 = sv ∧ Ow w.heap.size w' sv (cbl i)) (fun t _ => 16 - (toI (t 2)).toNat) ⟨B, 1, sv, rfl, by omega, by omega, by simp only [WS, List.getElem_cons_zero, List.getElem_cons_succ, Option.isNone_some, Option.isNone_none, List.getD_cons_zero, List.getD_cons_succ, I.at, atL, atO, atP, evp, evs, retV, ↓reduceIte, Nat.reduceEqDiff, reduceCtorEq], ov⟩ ?_
  clear B ov
  rintro t w2 ⟨B, i, sv, t2, h1, h2, t1, ov⟩
  by_cases hlt : i < 16
  · have li : i - 1 < (cbl i).length := by rw [cbl_len]; omega
    have hg := cbl_get li
    simp (maxSteps := 1000000) (disch := omega) only [WS, List.getElem_cons_zero, List.getElem_cons_succ, Option.isNone_some, Option.isNone_none, List.getD_cons_zero, List.getD_cons_succ, I.at, atL, atO, atP, evp, evs, retV, ↓reduceIte, Nat.reduceEqDiff, reduceCtorEq, AS, t1, t2, ov.sl.Xix li, ov.sl.Xld li, cell_e16]
    have hr := rootI_cbs (i - 1) (by omega)
    rw [show i - 1 + 1 = i by omega] at hr
    rw [hg]
    refine X_call0 ((culletref03_Root_spec w2 _ _ hr).mono ?_)
    rintro _ w3 ⟨rfl, hB⟩
    have ov := ov.up hB
    have B := B.trans (hB.mono B.size)
    clear hB
    simp (maxSteps := 1000000) (disch := omega) only [WS, List.getElem_cons_zero, List.getElem_cons_succ, Option.isNone_some, Option.isNone_none, List.getD_cons_zero, List.getD_cons_succ, I.at, atL, atO, atP, evp, evs, retV, ↓reduceIte, Nat.reduceEqDiff, reduceCtorEq, AS, t1, t2]
    refine X_bsl (zs := [(⟨cbs.getD i 0⟩ : El 16)]) (by rfl) (by rfl) fun s1 w4 o1 hB => ?_
    have ov := ov.up hB
    have B := B.trans (hB.mono B.size)
    clear hB
    simp (maxSteps := 1000000) (disch := omega) only [WS, List.getElem_cons_zero, List.getElem_cons_succ, Option.isNone_some, Option.isNone_none, List.getD_cons_zero, List.getD_cons_succ, I.at, atL, atO, atP, evp, evs, retV, ↓reduceIte, Nat.reduceEqDiff, reduceCtorEq, AS, t1, t2]
    refine ov.Xapp o1.sl B.size (by rw [cbl_len]; simp only [List.length_singleton, maxBytes]; omega) (by rw [cbl_len]; simp only [List.length_singleton]; omega) fun s2 w5 o2 hg hn => ?_
    rw [show cbl i ++ [(⟨cbs.getD i 0⟩ : El 16)] = cbl (i + 1) by unfold cbl; rw [List.range_succ, List.map_append]; rfl] at o2
    simp (maxSteps := 1000000) (disch := omega) only [WS, List.getElem_cons_zero, List.getElem_cons_succ, Option.isNone_some, Option.isNone_none, List.getD_cons_zero, List.getD_cons_succ, I.at, atL, atO, atP, evp, evs, retV, ↓reduceIte, Nat.reduceEqDiff, reduceCtorEq, AS, t1, t2]
    exact ⟨⟨B.grown hg B.size fun b hb => (ov.blk b hb).1, i + 1, s2, rfl, by omega, by omega, rfl, o2⟩, by omega⟩
  · obtain rfl : i = 16 := by omega
    simp (maxSteps := 1000000) (disch := omega) only [WS, List.getElem_cons_zero, List.getElem_cons_succ, Option.isNone_some, Option.isNone_none, List.getD_cons_zero, List.getD_cons_succ, I.at, atL, atO, atP, evp, evs, retV, ↓reduceIte, Nat.reduceEqDiff, reduceCtorEq, AS, t1, t2, show decide (((16 : Nat) : Int) < 16) = false from rfl]
    exact ⟨ov, B⟩
end Go.Proofs.Ytpmfeaajpjjfiaa.Fw

/- Numbers as polynomials over GF(2), and what they are in the field. Plain maths. -/
set_option linter.unusedVariables false
namespace Go.Fw
end Go.Fw

set_option linter.unusedVariables false
set_option linter.unusedSimpArgs false
set_option maxRecDepth 100000
set_option maxHeartbeats 1000000
namespace Go.Proofs.Ytpmfeaajpjjfiaa.Fw
open Go Go.Fw Go.Proofs
attribute [local irreducible] stepI
end Go.Proofs.Ytpmfeaajpjjfiaa.Fw
namespace Go.Proofs.Ytpmfeaajpjjfiaa.Fw
open Go Go.Fw
end Go.Proofs.Ytpmfeaajpjjfiaa.Fw
