import Derived.Test.YtcnabolainmaeaaProg
import Derived.Test.YtcnabolainmaeaaFwTT
import Derived.Test.YtcnabolainmaeaaSS13bT
set_option linter.all false
set_option linter.unusedVariables false
set_option linter.unusedSimpArgs false
set_option maxRecDepth 100000
set_option maxHeartbeats 1000000
namespace Go.Proofs.Ytcnabolainmaeaa.Fw
open Go Go.Fw Go.Proofs
attribute [local irreducible] stepI
def c_lch_Linear : C := .seq (.ops [⟨0, (some 2), none, .mov (.c (.slice none 0 0)), []⟩, ⟨1, (some 3), none, .mov (.c (.int .i64 0)), []⟩]) (.seq (.seq (.ops [⟨0, (some 8), none, .mov (.t 0), []⟩, ⟨1, (some 9), none, .bin .lss (.t 8) (.c (.int .i64 0)), []⟩, ⟨2, (some 10), none, .mov (.t 9), []⟩, ⟨3, (some 11), (some (10, false)), .mov (.t 0), []⟩, ⟨4, (some 12), (some (10, false)), .bin .gtr (.t 11) (.c (.int .i64 16)), []⟩, ⟨5, (some 13), none, .pick (.t 10) (.c (.bool true)) (.t 12), []⟩]) (.ite (.t 13) (.seq (.ops [⟨0, (some 2), none, .mov (.c (.slice none 0 0)), []⟩, ⟨1, (some 3), none, .mov (.c (.int .i64 7)), []⟩]) .ret) .skip)) (.seq (.ops [⟨0, (some 14), none, .bsl 22 1 [.int .u16 0] [(0, (1, .c (.int .u16 1)))], []⟩, ⟨1, (some 4), none, .mov (.t 14), []⟩]) (.seq (.seq (.ops [⟨0, (some 15), none, .mov (.t 0), []⟩, ⟨1, (some 16), none, .mov (.c (.int .i64 0)), []⟩]) (.block 0 (.loop (.seq (.ops [⟨0, (some 17), none, .bin .lss (.t 16) (.t 15), []⟩]) (.seq (.ite (.t 17) .skip (.exit 0)) (.seq (.block 1 (.seq (.ops [⟨0, (some 18), none, .mov (.t 4), []⟩, ⟨1, (some 19), none, .app 22 2 [.int .u16 0] (.c (.slice none 0 0)) (.t 18), []⟩, ⟨2, (some 20), none, .bsl 22 1 [.int .u16 0] [(0, (1, .c (.int .u16 0)))], []⟩, ⟨3, (some 21), none, .app 22 2 [.int .u16 0] (.t 19) (.t 20), []⟩, ⟨4, (some 5), none, .mov (.t 21), []⟩]) (.seq (.seq (.ops [⟨0, (some 22), none, .mov (.t 4), []⟩, ⟨1, (some 23), none, .len (.t 22), []⟩, ⟨2, (some 24), none, .mov (.c (.int .i64 0)), []⟩]) (.block 2 (.loop (.seq (.ops [⟨0, (some 25), none, .bin .lss (.t 24) (.t 23), []⟩]) (.seq (.ite (.t 25) .skip (.exit 2)) (.seq (.block 3 (.seq (.ops [⟨0, (some 26), none, .mov (.t 24), []⟩, ⟨1, (some 27), none, .ixs 1 (.t 22) (.t 24), []⟩, ⟨2, (some 28), none, .ld (.t 27), []⟩, ⟨3, (some 6), none, .mov (.t 26), []⟩, ⟨4, (some 7), none, .mov (.t 28), []⟩]) (.dops [⟨0, (some 29), none, .mov (.t 5), []⟩, ⟨1, (some 30), none, .mov (.t 6), []⟩, ⟨2, (some 31), none, .bin .add (.t 30) (.c (.int .i64 1)), []⟩, ⟨3, (some 32), none, .ixs 1 (.t 29) (.t 31), []⟩, ⟨4, (some 33), none, .ld (.t 32), []⟩, ⟨5, (some 34), none, .mov (.t 7), []⟩, ⟨6, (some 35), none, .mov (.t 7), []⟩, ⟨7, (some 36), none, .call (.c (.func (.func 15) #[] #[])) [.t 34, .t 35], [4]⟩, ⟨8, (some 37), none, .bin .xor (.t 33) (.t 36), []⟩, ⟨9, (some 38), none, .ixs 1 (.t 29) (.t 31), []⟩, ⟨10, none, none, .st (.t 38) (.t 37), []⟩]))) (.ops [⟨0, (some 39), none, .bin .add (.t 24) (.c (.int .i64 1)), []⟩, ⟨1, (some 24), none, .mov (.t 39), []⟩]))))))) (.ops [⟨0, (some 40), none, .mov (.t 5), []⟩, ⟨1, (some 4), none, .mov (.t 40), []⟩])))) (.ops [⟨0, (some 41), none, .bin .add (.t 16) (.c (.int .i64 1)), []⟩, ⟨1, (some 16), none, .mov (.t 41), []⟩]))))))) (.seq (.ops [⟨0, (some 42), none, .mov (.t 4), []⟩, ⟨1, (some 2), none, .mov (.t 42), []⟩, ⟨2, (some 3), none, .mov (.c (.int .i64 0)), []⟩]) .ret))))
attribute [irreducible] c_lch_Linear
theorem run_lch_Linear {args : List Value} {w : World} {K : Value → World → Prop} (hn : args.length ≤ 43) (h : WP Try.prog c_lch_Linear (endQ [.t 2, .t 3] K) (initT args) w) : CallV Try.prog 14 args w K :=
  call_of follows Try.func14 (by kernel_rfl) (by kernel_rfl) hn h
def c_lch_Derivative : C := .seq (.ops [⟨0, (some 2), none, .mov (.c (.slice none 0 0)), []⟩, ⟨1, (some 3), none, .mov (.c (.int .i64 0)), []⟩]) (.seq (.seq (.ops [⟨0, (some 7), none, .mov (.t 0), []⟩, ⟨1, (some 8), none, .len (.t 7), []⟩, ⟨2, (some 9), none, .call (.c (.func (.func 34) #[] #[])) [.t 8, .c (.int .i64 65536)], []⟩, ⟨3, (some 10), none, .un .not (.t 9), []⟩]) (.ite (.t 10) (.seq (.ops [⟨0, (some 2), none, .mov (.c (.slice none 0 0)), []⟩, ⟨1, (some 3), none, .mov (.c (.int .i64 130)), []⟩]) .ret) .skip)) (.seq (.ops [⟨0, (some 11), none, .mov (.t 0), []⟩, ⟨1, (some 12), none, .len (.t 11), []⟩, ⟨2, (some 13), none, .mks 22 2 [.int .u16 0] (.t 12) (.t 12), []⟩, ⟨3, (some 4), none, .mov (.t 13), []⟩]) (.seq (.seq (.ops [⟨0, (some 14), none, .mov (.t 4), []⟩, ⟨1, (some 15), none, .len (.t 14), []⟩, ⟨2, (some 16), none, .mov (.c (.int .i64 0)), []⟩]) (.block 0 (.loop (.seq (.ops [⟨0, (some 17), none, .bin .lss (.t 16) (.t 15), []⟩]) (.seq (.ite (.t 17) .skip (.exit 0)) (.seq (.block 1 (.seq (.ops [⟨0, (some 18), none, .mov (.t 16), []⟩, ⟨1, (some 5), none, .mov (.t 18), []⟩]) (.seq (.ops [⟨0, (some 6), none, .mov (.c (.int .i64 1)), []⟩]) (.block 2 (.loop (.seq (.seq (.ops [⟨0, (some 19), none, .mov (.t 5), []⟩, ⟨1, (some 20), none, .mov (.t 6), []⟩, ⟨2, (some 21), none, .bin .add (.t 19) (.t 20), []⟩, ⟨3, (some 22), none, .mov (.t 0), []⟩, ⟨4, (some 23), none, .len (.t 22), []⟩, ⟨5, (some 24), none, .bin .lss (.t 21) (.t 23), []⟩]) (.ite (.t 24) .skip (.exit 2))) (.seq (.block 3 (.seq (.ops [⟨0, (some 27), none, .mov (.t 5), []⟩, ⟨1, (some 28), none, .mov (.t 6), []⟩, ⟨2, (some 29), none, .bin .and (.t 27) (.t 28), []⟩, ⟨3, (some 30), none, .bin .eql (.t 29) (.c (.int .i64 0)), []⟩]) (.ite (.t 30) (.dops [⟨0, (some 31), none, .mov (.t 4), []⟩, ⟨1, (some 32), none, .mov (.t 5), []⟩, ⟨2, (some 33), none, .ixs 1 (.t 31) (.t 32), []⟩, ⟨3, (some 34), none, .ld (.t 33), []⟩, ⟨4, (some 35), none, .mov (.t 0), []⟩, ⟨5, (some 36), none, .mov (.t 5), []⟩, ⟨6, (some 37), none, .mov (.t 6), []⟩, ⟨7, (some 38), none, .bin .add (.t 36) (.t 37), []⟩, ⟨8, (some 39), none, .ixs 1 (.t 35) (.t 38), []⟩, ⟨9, (some 40), none, .ld (.t 39), []⟩, ⟨10, (some 41), none, .bin .xor (.t 34) (.t 40), []⟩, ⟨11, (some 42), none, .ixs 1 (.t 31) (.t 32), []⟩, ⟨12, none, none, .st (.t 42) (.t 41), []⟩]) .skip))) (.ops [⟨0, (some 25), none, .mov (.t 6), []⟩, ⟨1, (some 26), none, .bin .shl (.t 25) (.c (.int .u64 1)), []⟩, ⟨2, (some 6), none, .mov (.t 26), []⟩])))))))) (.ops [⟨0, (some 43), none, .bin .add (.t 16) (.c (.int .i64 1)), []⟩, ⟨1, (some 16), none, .mov (.t 43), []⟩]))))))) (.seq (.ops [⟨0, (some 44), none, .mov (.t 4), []⟩, ⟨1, (some 2), none, .mov (.t 44), []⟩, ⟨2, (some 3), none, .mov (.c (.int .i64 0)), []⟩]) .ret))))
attribute [irreducible] c_lch_Derivative
theorem run_lch_Derivative {args : List Value} {w : World} {K : Value → World → Prop} (hn : args.length ≤ 45) (h : WP Try.prog c_lch_Derivative (endQ [.t 2, .t 3] K) (initT args) w) : CallV Try.prog 18 args w K :=
  call_of follows Try.func18 (by kernel_rfl) (by kernel_rfl) hn h
def c_lch_power : C := .seq (.ops [⟨0, (some 4), none, .mov (.c (.bool false)), []⟩]) (.seq (.ops [⟨0, (some 5), none, .mov (.t 0), []⟩, ⟨1, (some 6), none, .bin .geq (.t 5) (.c (.int .i64 1)), []⟩, ⟨2, (some 7), none, .mov (.t 6), []⟩, ⟨3, (some 8), (some (7, true)), .mov (.t 0), []⟩, ⟨4, (some 9), (some (7, true)), .mov (.t 1), []⟩, ⟨5, (some 10), (some (7, true)), .bin .leq (.t 8) (.t 9), []⟩, ⟨6, (some 11), none, .pick (.t 7) (.t 10) (.c (.bool false)), []⟩, ⟨7, (some 12), none, .mov (.t 11), []⟩, ⟨8, (some 13), (some (12, true)), .mov (.t 0), []⟩, ⟨9, (some 14), (some (12, true)), .mov (.t 0), []⟩, ⟨10, (some 15), (some (12, true)), .bin .sub (.t 14) (.c (.int .i64 1)), []⟩, ⟨11, (some 16), (some (12, true)), .bin .and (.t 13) (.t 15), []⟩, ⟨12, (some 17), (some (12, true)), .bin .eql (.t 16) (.c (.int .i64 0)), []⟩, ⟨13, (some 18), none, .pick (.t 12) (.t 17) (.c (.bool false)), []⟩, ⟨14, (some 4), none, .mov (.t 18), []⟩]) .ret)
attribute [irreducible] c_lch_power
theorem run_lch_power {args : List Value} {w : World} {K : Value → World → Prop} (hn : args.length ≤ 19) (h : WP Try.prog c_lch_power (endQ [.t 4] K) (initT args) w) : CallV Try.prog 34 args w K :=
  call_of follows Try.func34 (by kernel_rfl) (by kernel_rfl) hn h
end Go.Proofs.Ytcnabolainmaeaa.Fw
namespace Go.Proofs.Ytcnabolainmaeaa.Fw
open Go Go.Fw
theorem lch_Linear_spec (w : World) (i : Int) : CallV Try.prog 14 [.int .i64 i] w fun v w' => RowKit.Below w.heap.size w w' ∧
    ((0 ≤ i ∧ i ≤ 16 ∧ ∃ s m, v = .tuple #[s, .int .i64 0] ∧ Ow w.heap.size w' s m ∧ m.length = i.toNat + 1 ∧ (co m).c = lc i.toNat) ∨ (¬ (0 ≤ i ∧ i ≤ 16) ∧ v = .tuple #[.slice none 0 0, .int .i64 7])) := by
  refine run_lch_Linear (by simp) ?_
  simp only [c_lch_Linear, WS, List.getElem_cons_zero, List.getElem_cons_succ, Option.isNone_some, Option.isNone_none, List.getD_cons_zero, List.getD_cons_succ, I.at, atL, atO, atP, evp, evs, retV, ↓reduceIte, Nat.reduceEqDiff, reduceCtorEq]
  by_cases h0 : i < 0
  · simp (maxSteps := 1000000) (disch := omega) only [WS, List.getElem_cons_zero, List.getElem_cons_succ, Option.isNone_some, Option.isNone_none, List.getD_cons_zero, List.getD_cons_succ, I.at, atL, atO, atP, evp, evs, retV, ↓reduceIte, Nat.reduceEqDiff, reduceCtorEq, AS]
    exact ⟨RowKit.Below.refl _ _, Or.inr (by omega)⟩
  obtain ⟨i, rfl⟩ : ∃ m : Nat, i = (m : Int) := ⟨i.toNat, by omega⟩
  by_cases h1 : 16 < i
  · simp (maxSteps := 1000000) (disch := omega) only [WS, List.getElem_cons_zero, List.getElem_cons_succ, Option.isNone_some, Option.isNone_none, List.getD_cons_zero, List.getD_cons_succ, I.at, atL, atO, atP, evp, evs, retV, ↓reduceIte, Nat.reduceEqDiff, reduceCtorEq, AS]
    exact ⟨RowKit.Below.refl _ _, Or.inr (by omega)⟩
  simp (maxSteps := 1000000) (disch := omega) only [WS, List.getElem_cons_zero, List.getElem_cons_succ, Option.isNone_some, Option.isNone_none, List.getD_cons_zero, List.getD_cons_succ, I.at, atL, atO, atP, evp, evs, retV, ↓reduceIte, Nat.reduceEqDiff, reduceCtorEq, AS]
  refine X_bsl (zs := [(1 : El 16)]) (by rfl) (by rfl) fun sv w1 ov hB => ?_
  have B := hB
  clear hB
  simp (maxSteps := 1000000) (disch := omega) only [WS, List.getElem_cons_zero, List.getElem_cons_succ, Option.isNone_some, Option.isNone_none, List.getD_cons_zero, List.getD_cons_succ, I.at, atL, atO, atP, evp, evs, retV, ↓reduceIte, Nat.reduceEqDiff, reduceCtorEq, AS]
  refine loop_of (fun t w' => t 15 = .int .i64 (i : Int) ∧ RowKit.Below w.heap.size w w' ∧ ∃ (k : Nat) (sv : Value) (m : List (El 16)), t 16 = .int .i64 (k : Int) ∧ k ≤ i ∧ t 4 = sv ∧ Ow w.heap.size w' sv m ∧ m.length = k + 1 ∧ (co m).c = lc k) (fun t _ => i - (toI (t 16)).toNat)
    ⟨by simp only [WS, List.getElem_cons_zero, List.getElem_cons_succ, Option.isNone_some, Option.isNone_none, List.getD_cons_zero, List.getD_cons_succ, I.at, atL, atO, atP, evp, evs, retV, ↓reduceIte, Nat.reduceEqDiff, reduceCtorEq], B, 0, sv, _, rfl, by omega, by simp only [WS, List.getElem_cons_zero, List.getElem_cons_succ, Option.isNone_some, Option.isNone_none, List.getD_cons_zero, List.getD_cons_succ, I.at, atL, atO, atP, evp, evs, retV, ↓reduceIte, Nat.reduceEqDiff, reduceCtorEq], ov, rfl, by funext t; cases t <;> rfl⟩ ?_
  clear B ov
  rintro t w1 ⟨t15, B, k, sv, m, t16, hk, t4, om, ml, mc⟩
  by_cases hlt : k < i
  · have S1 := B.size
    obtain ⟨vb, hvb, hvlt⟩ := om.sl.blk_lt (by rintro rfl; simp at ml)
    simp (maxSteps := 1000000) (disch := omega) only [WS, List.getElem_cons_zero, List.getElem_cons_succ, Option.isNone_some, Option.isNone_none, List.getD_cons_zero, List.getD_cons_succ, I.at, atL, atO, atP, evp, evs, retV, ↓reduceIte, Nat.reduceEqDiff, reduceCtorEq, AS, t15, t4, t16]
    refine (Ow.nil w1.heap.size w1).Xapp om.sl (Nat.le_refl _) (by simp only [List.length_nil, maxBytes]; omega) (by simp only [List.length_nil]; omega) fun s2 w2 o2 hg hnear => ?_
    rw [List.nil_append] at o2
    have hB : RowKit.Below w1.heap.size w1 w2 := (RowKit.Below.refl _ _).grown hg (Nat.le_refl _) fun b hb => by simp [Fw.blk, Value.ownBlock] at hb
    clear hg hnear
    have S2 := hB.size
    have om := om.up hB
    have B := B.trans (hB.mono B.size)
    clear hB
    simp (maxSteps := 1000000) (disch := omega) only [WS, List.getElem_cons_zero, List.getElem_cons_succ, Option.isNone_some, Option.isNone_none, List.getD_cons_zero, List.getD_cons_succ, I.at, atL, atO, atP, evp, evs, retV, ↓reduceIte, Nat.reduceEqDiff, reduceCtorEq, AS, t15, t4, t16]
    refine X_bsl (zs := [(0 : El 16)]) (by rfl) (by rfl) fun z w3 oz hB => ?_
    have S3 := hB.size
    have om := om.up hB
    have o2 := o2.up hB
    have B := B.trans (hB.mono B.size)
    clear hB
    simp (maxSteps := 1000000) (disch := omega) only [WS, List.getElem_cons_zero, List.getElem_cons_succ, Option.isNone_some, Option.isNone_none, List.getD_cons_zero, List.getD_cons_succ, I.at, atL, atO, atP, evp, evs, retV, ↓reduceIte, Nat.reduceEqDiff, reduceCtorEq, AS, t15, t4, t16]
    refine Ow.Xapp o2 oz.sl (by omega) (by simp only [List.length_singleton, maxBytes]; omega) (by simp only [List.length_singleton]; omega) fun q w4 oq hg hn => ?_
    have B := B.grown hg B.size fun b hb => Nat.le_trans S1 (o2.blk b hb).1
    have om := om.grown hg fun e => by rw [hvb] at e; have := o2.blk vb e.symm; omega
    have hq : Fw.blk q ≠ some vb := fun e => by have := oq.blk vb e; omega
    have hql : (m ++ [(0 : El 16)]).length = k + 2 := by simp [ml]
    have hqc : co (m ++ [(0 : El 16)]) = co m := co_append_zeros m 1
    have hqs := fun b hb => Nat.le_trans S1 (oq.blk b hb).1
    generalize m ++ [(0 : El 16)] = ms at oq hql hqc
    have oq := oq.mono S1
    clear hg hn o2 oz S2 S3
    simp (maxSteps := 1000000) (disch := omega) only [WS, List.getElem_cons_zero, List.getElem_cons_succ, Option.isNone_some, Option.isNone_none, List.getD_cons_zero, List.getD_cons_succ, I.at, atL, atO, atP, evp, evs, retV, ↓reduceIte, Nat.reduceEqDiff, reduceCtorEq, AS, t15, t4, t16, om.sl.Xlen, ml]
    refine loop_of (fun t w' => t 15 = .int .i64 (i : Int) ∧ t 4 = sv ∧ t 5 = q ∧ t 16 = .int .i64 (k : Int) ∧ t 22 = sv ∧ t 23 = .int .i64 ((k + 1 : Nat) : Int) ∧ RowKit.Below w.heap.size w w' ∧ Ow w.heap.size w' sv m ∧ ∃ (j : Nat) (ms : List (El 16)), t 24 = .int .i64 (j : Int) ∧ j ≤ k + 1 ∧ Ow w.heap.size w' q ms ∧ ms.length = k + 2 ∧
        ∀ u, (co ms).c u = (co m).c u + (if 1 ≤ u ∧ u ≤ j then (co m).c (u - 1) * (co m).c (u - 1) else 0)) (fun t _ => k + 1 - (toI (t 24)).toNat)
      ⟨by simp only [WS, List.getElem_cons_zero, List.getElem_cons_succ, Option.isNone_some, Option.isNone_none, List.getD_cons_zero, List.getD_cons_succ, I.at, atL, atO, atP, evp, evs, retV, ↓reduceIte, Nat.reduceEqDiff, reduceCtorEq]; exact t15, by simp only [WS, List.getElem_cons_zero, List.getElem_cons_succ, Option.isNone_some, Option.isNone_none, List.getD_cons_zero, List.getD_cons_succ, I.at, atL, atO, atP, evp, evs, retV, ↓reduceIte, Nat.reduceEqDiff, reduceCtorEq]; exact t4, by simp only [WS, List.getElem_cons_zero, List.getElem_cons_succ, Option.isNone_some, Option.isNone_none, List.getD_cons_zero, List.getD_cons_succ, I.at, atL, atO, atP, evp, evs, retV, ↓reduceIte, Nat.reduceEqDiff, reduceCtorEq], by simp only [WS, List.getElem_cons_zero, List.getElem_cons_succ, Option.isNone_some, Option.isNone_none, List.getD_cons_zero, List.getD_cons_succ, I.at, atL, atO, atP, evp, evs, retV, ↓reduceIte, Nat.reduceEqDiff, reduceCtorEq]; exact t16, by simp only [WS, List.getElem_cons_zero, List.getElem_cons_succ, Option.isNone_some, Option.isNone_none, List.getD_cons_zero, List.getD_cons_succ, I.at, atL, atO, atP, evp, evs, retV, ↓reduceIte, Nat.reduceEqDiff, reduceCtorEq], by simp only [WS, List.getElem_cons_zero, List.getElem_cons_succ, Option.isNone_some, Option.isNone_none, List.getD_cons_zero, List.getD_cons_succ, I.at, atL, atO, atP, evp, evs, retV, ↓reduceIte, Nat.reduceEqDiff, reduceCtorEq], B, om, 0, ms, rfl, by omega, oq, hql, fun u => by rw [if_neg (by omega), El.add_zero, hqc]⟩ ?_
    clear B om hqc hql t15 t4 t16
    rintro t w5 ⟨t15, t4, t5, t16, t22, t23, B, om, j, ms, t24, hj, oq, hql, hqc⟩
    by_cases hjl : j < k + 1
    · have jm : j < m.length := by omega
      have j1 : j + 1 < ms.length := by omega
      simp (maxSteps := 1000000) (disch := omega) only [WS, List.getElem_cons_zero, List.getElem_cons_succ, Option.isNone_some, Option.isNone_none, List.getD_cons_zero, List.getD_cons_succ, I.at, atL, atO, atP, evp, evs, retV, ↓reduceIte, Nat.reduceEqDiff, reduceCtorEq, AS, t15, t4, t5, t16, t22, t23, t24, om.sl.Xix jm, om.sl.Xld jm, cell_e16]
      refine WP_dops ?_
      have hqd := oq.sl.drew
      have see : Fw.sees Try.prog (.ld (.c (elP q (j + 1)))) w5.drew (.int .u16 (ms[j + 1].v.toNat : Int)) = True := hqd.sees j1 Try.prog
      simp (maxSteps := 1000000) (disch := omega) only [ES, List.mem_cons, List.not_mem_nil, implies_true, forall_const, WS, List.getElem_cons_zero, List.getElem_cons_succ, Option.isNone_some, Option.isNone_none, List.getD_cons_zero, List.getD_cons_succ, I.at, atL, atO, atP, evp, evs, retV, ↓reduceIte, Nat.reduceEqDiff, reduceCtorEq, AS, t15, t4, t5, t16, t22, t23, t24, hqd.Eix j1, hqd.Eld j1, cell_e16]
      refine E_call0 ((gf16_Mul_spec w5.drew m[j] m[j]).mono ?_)
      rintro _ w6 ⟨rfl, rfl⟩
      simp (maxSteps := 1000000) (disch := omega) only [ES, List.mem_cons, List.not_mem_nil, implies_true, forall_const, WS, List.getElem_cons_zero, List.getElem_cons_succ, Option.isNone_some, Option.isNone_none, List.getD_cons_zero, List.getD_cons_succ, I.at, atL, atO, atP, evp, evs, retV, ↓reduceIte, Nat.reduceEqDiff, reduceCtorEq, AS, see, xor16, hqd.Eix j1]
      refine Ow.Est oq.drew j1 (ms[j + 1] + m[j] * m[j]) fun w7 oq7 hg7 => ?_
      simp (maxSteps := 1000000) (disch := omega) only [ES, List.mem_cons, List.not_mem_nil, implies_true, forall_const, WS, List.getElem_cons_zero, List.getElem_cons_succ, Option.isNone_some, Option.isNone_none, List.getD_cons_zero, List.getD_cons_succ, I.at, atL, atO, atP, evp, evs, retV, ↓reduceIte, Nat.reduceEqDiff, reduceCtorEq, AS, t15, t4, t5, t16, t22, t23, t24]
      refine ⟨⟨B.grown (grown_of_drew hg7) B.size fun b hb => (oq.blk b hb).1, om.grown (grown_of_drew hg7) (by rw [hvb]; exact fun e => hq e.symm), j + 1, _, rfl, by omega, oq7, by simp [hql], fun u => ?_⟩, by omega⟩
      rw [co_set _ j1, hqc u]
      by_cases hu : u = j + 1
      · subst hu
        rw [if_pos rfl, if_pos ⟨by omega, by omega⟩, ← co_get ms j1, hqc (j + 1), if_neg (by omega), El.add_zero, Nat.add_sub_cancel, co_get m jm]
      · rw [if_neg hu]
        congr 1
        by_cases hc : 1 ≤ u ∧ u ≤ j
        · rw [if_pos hc, if_pos ⟨hc.1, by omega⟩]
        · rw [if_neg hc, if_neg (by omega)]
    · obtain rfl : j = k + 1 := by omega
      simp (maxSteps := 1000000) (disch := omega) only [WS, List.getElem_cons_zero, List.getElem_cons_succ, Option.isNone_some, Option.isNone_none, List.getD_cons_zero, List.getD_cons_succ, I.at, atL, atO, atP, evp, evs, retV, ↓reduceIte, Nat.reduceEqDiff, reduceCtorEq, AS, t15, t4, t5, t16, t22, t23, t24]
      refine ⟨⟨B, k + 1, q, ms, rfl, by omega, rfl, oq, by omega, ?_⟩, by omega⟩
      funext u
      rw [hqc u]
      show _ = lc k u + (match u with | 0 => 0 | t + 1 => lc k t * lc k t)
      rw [← mc]
      cases u with
      | zero => rfl
      | succ u =>
        dsimp only
        by_cases hu : u + 1 ≤ k + 1
        · rw [if_pos ⟨by omega, hu⟩, Nat.add_sub_cancel]
        · rw [if_neg (by omega), co_dg m u (by omega), El.mul_zero]
  · obtain rfl : k = i := by omega
    simp (maxSteps := 1000000) (disch := omega) only [WS, List.getElem_cons_zero, List.getElem_cons_succ, Option.isNone_some, Option.isNone_none, List.getD_cons_zero, List.getD_cons_succ, I.at, atL, atO, atP, evp, evs, retV, ↓reduceIte, Nat.reduceEqDiff, reduceCtorEq, AS, t15, t4, t16]
    exact ⟨B, Or.inl ⟨by omega, by omega, sv, m, rfl, om, by rw [Int.toNat_natCast]; exact ml, by rw [Int.toNat_natCast]; exact mc⟩⟩
theorem lch_power_spec (w : World) (n m : Nat) (hn : n < 4611686018427387904) (hm : m < 4611686018427387904) : CallV Try.prog 34 [.int .i64 (n : Int), .int .i64 (m : Int)] w fun v w' => v = .bool (decide (1 ≤ n ∧ n ≤ m ∧ n &&& (n - 1) = 0)) ∧ w' = w := by
  refine run_lch_power (by simp) ?_
  simp only [c_lch_power, WS, List.getElem_cons_zero, List.getElem_cons_succ, Option.isNone_some, Option.isNone_none, List.getD_cons_zero, List.getD_cons_succ, I.at, atL, atO, atP, evp, evs, retV, ↓reduceIte, Nat.reduceEqDiff, reduceCtorEq]
  by_cases h1 : 1 ≤ n
  · by_cases h2 : n ≤ m
    · have e : decide (((n &&& (n - 1) : Nat) : Int) = 0) = decide (1 ≤ n ∧ n ≤ m ∧ n &&& (n - 1) = 0) :=
        decide_eq_decide.2 ⟨fun h => ⟨h1, h2, by omega⟩, fun h => by omega⟩
      rw [← e]
      simp (maxSteps := 1000000) (disch := omega) only [WS, List.getElem_cons_zero, List.getElem_cons_succ, Option.isNone_some, Option.isNone_none, List.getD_cons_zero, List.getD_cons_succ, I.at, atL, atO, atP, evp, evs, retV, ↓reduceIte, Nat.reduceEqDiff, reduceCtorEq, AS, bits_and fits_i64 (a := n) (b := n - 1) (by omega) (by omega)]
    · simp (maxSteps := 1000000) (disch := omega) only [WS, List.getElem_cons_zero, List.getElem_cons_succ, Option.isNone_some, Option.isNone_none, List.getD_cons_zero, List.getD_cons_succ, I.at, atL, atO, atP, evp, evs, retV, ↓reduceIte, Nat.reduceEqDiff, reduceCtorEq, AS]
  · simp (maxSteps := 1000000) (disch := omega) only [WS, List.getElem_cons_zero, List.getElem_cons_succ, Option.isNone_some, Option.isNone_none, List.getD_cons_zero, List.getD_cons_succ, I.at, atL, atO, atP, evp, evs, retV, ↓reduceIte, Nat.reduceEqDiff, reduceCtorEq, AS]
theorem lch_Derivative_spec (w : World) (s : Value) (l : List (El 16)) (h : Sl w s l) (hb : l.length ≤ 70368744175616) : CallV Try.prog 18 [s] w fun v w' => RowKit.Below w.heap.size w w' ∧
    ((∃ k, k ≤ 16 ∧ l.length = 2 ^ k ∧ ∃ sv m, v = .tuple #[sv, .int .i64 0] ∧ Ow w.heap.size w' sv m ∧ m.length = 2 ^ k ∧ ∀ j, j < 2 ^ k → (co m).c j = dX k (co l).c j) ∨ (¬ (1 ≤ l.length ∧ l.length ≤ 65536 ∧ l.length &&& (l.length - 1) = 0) ∧ v = .tuple #[.slice none 0 0, .int .i64 130])) := by
  refine run_lch_Derivative (by simp) ?_
  simp only [c_lch_Derivative, WS, List.getElem_cons_zero, List.getElem_cons_succ, Option.isNone_some, Option.isNone_none, List.getD_cons_zero, List.getD_cons_succ, I.at, atL, atO, atP, evp, evs, retV, ↓reduceIte, Nat.reduceEqDiff, reduceCtorEq, h.Xlen]
  refine X_call0 ((lch_power_spec w l.length 65536 (by omega) (by omega)).mono ?_)
  rintro _ w ⟨rfl, rfl⟩
  by_cases hp : 1 ≤ l.length ∧ l.length ≤ 65536 ∧ l.length &&& (l.length - 1) = 0
  rotate_left
  · simp (maxSteps := 1000000) (disch := omega) only [WS, List.getElem_cons_zero, List.getElem_cons_succ, Option.isNone_some, Option.isNone_none, List.getD_cons_zero, List.getD_cons_succ, I.at, atL, atO, atP, evp, evs, retV, ↓reduceIte, Nat.reduceEqDiff, reduceCtorEq, AS]
    exact ⟨RowKit.Below.refl _ _, Or.inr hp⟩
  obtain ⟨k, hlk⟩ := pow_of_and _ l.length (Nat.le_refl _) (by omega) hp.2.2
  have hk : k ≤ 16 := by
    rcases Nat.lt_or_ge 16 k with hlt | hge
    · have := Nat.pow_le_pow_right (show 0 < 2 by omega) hlt
      omega
    · exact hge
  have hk16 := pow_le16' hk
  have hd : decide (1 ≤ l.length ∧ l.length ≤ 65536 ∧ l.length &&& (l.length - 1) = 0) = true := decide_eq_true hp
  clear hp
  rw [hlk] at hd
  have h0 := Nat.two_pow_pos k
  have hbig : 2 * 2 ^ k ≤ maxBytes := by simp only [maxBytes]; omega
  have hbig2 : 2 ^ k < 9223372036854775808 := by omega
  simp (maxSteps := 1000000) (disch := omega) only [WS, List.getElem_cons_zero, List.getElem_cons_succ, Option.isNone_some, Option.isNone_none, List.getD_cons_zero, List.getD_cons_succ, I.at, atL, atO, atP, evp, evs, retV, ↓reduceIte, Nat.reduceEqDiff, reduceCtorEq, AS, hd, h.Xlen, hlk]
  refine X_mks (x := (0 : El 16)) hbig hbig2 fun sv w1 ov hB => ?_
  have B := hB
  clear hB
  simp (maxSteps := 1000000) (disch := omega) only [WS, List.getElem_cons_zero, List.getElem_cons_succ, Option.isNone_some, Option.isNone_none, List.getD_cons_zero, List.getD_cons_succ, I.at, atL, atO, atP, evp, evs, retV, ↓reduceIte, Nat.reduceEqDiff, reduceCtorEq, AS, ov.sl.Xlen, List.length_replicate]
  refine loop_of (fun t w' => t 0 = s ∧ t 4 = sv ∧ t 15 = .int .i64 ((2 ^ k : Nat) : Int) ∧ RowKit.Below w.heap.size w w' ∧ ∃ (j : Nat) (m : List (El 16)), t 16 = .int .i64 (j : Int) ∧ j ≤ 2 ^ k ∧ Ow w.heap.size w' sv m ∧ m.length = 2 ^ k ∧ ∀ u, (co m).c u = if u < j then dX k (co l).c u else 0)
    (fun t _ => 2 ^ k - (toI (t 16)).toNat) ⟨by simp only [WS, List.getElem_cons_zero, List.getElem_cons_succ, Option.isNone_some, Option.isNone_none, List.getD_cons_zero, List.getD_cons_succ, I.at, atL, atO, atP, evp, evs, retV, ↓reduceIte, Nat.reduceEqDiff, reduceCtorEq], by simp only [WS, List.getElem_cons_zero, List.getElem_cons_succ, Option.isNone_some, Option.isNone_none, List.getD_cons_zero, List.getD_cons_succ, I.at, atL, atO, atP, evp, evs, retV, ↓reduceIte, Nat.reduceEqDiff, reduceCtorEq], by simp only [WS, List.getElem_cons_zero, List.getElem_cons_succ, Option.isNone_some, Option.isNone_none, List.getD_cons_zero, List.getD_cons_succ, I.at, atL, atO, atP, evp, evs, retV, ↓reduceIte, Nat.reduceEqDiff, reduceCtorEq], B, 0, _, rfl, by omega, ov, List.length_replicate .., fun u => by rw [co_replicate, if_neg (by omega)]; rfl⟩ ?_
  clear B ov
  rintro t w2 ⟨t0, t4, t15, B, j, m, t16, hj, ov, ml, mc⟩
  by_cases hjk : j < 2 ^ k
  · simp (maxSteps := 1000000) (disch := omega) only [WS, List.getElem_cons_zero, List.getElem_cons_succ, Option.isNone_some, Option.isNone_none, List.getD_cons_zero, List.getD_cons_succ, I.at, atL, atO, atP, evp, evs, retV, ↓reduceIte, Nat.reduceEqDiff, reduceCtorEq, AS, t0, t4, t15, t16]
    refine loop_of (fun t w' => t 0 = s ∧ t 4 = sv ∧ t 5 = .int .i64 (j : Int) ∧ t 15 = .int .i64 ((2 ^ k : Nat) : Int) ∧ t 16 = .int .i64 (j : Int) ∧ RowKit.Below w.heap.size w w' ∧ ∃ (i : Nat) (m : List (El 16)), t 6 = .int .i64 ((2 ^ i : Nat) : Int) ∧ i ≤ k ∧ Ow w.heap.size w' sv m ∧ m.length = 2 ^ k ∧ ∀ u, (co m).c u = if u < j then dX k (co l).c u else if u = j then esum i (fun i => if j.testBit i then 0 else (co l).c (j + 2 ^ i)) else 0)
      (fun t _ => 2 ^ k - (toI (t 6)).toNat) ⟨by simp only [WS, List.getElem_cons_zero, List.getElem_cons_succ, Option.isNone_some, Option.isNone_none, List.getD_cons_zero, List.getD_cons_succ, I.at, atL, atO, atP, evp, evs, retV, ↓reduceIte, Nat.reduceEqDiff, reduceCtorEq]; exact t0, by simp only [WS, List.getElem_cons_zero, List.getElem_cons_succ, Option.isNone_some, Option.isNone_none, List.getD_cons_zero, List.getD_cons_succ, I.at, atL, atO, atP, evp, evs, retV, ↓reduceIte, Nat.reduceEqDiff, reduceCtorEq]; exact t4, by simp only [WS, List.getElem_cons_zero, List.getElem_cons_succ, Option.isNone_some, Option.isNone_none, List.getD_cons_zero, List.getD_cons_succ, I.at, atL, atO, atP, evp, evs, retV, ↓reduceIte, Nat.reduceEqDiff, reduceCtorEq], by simp only [WS, List.getElem_cons_zero, List.getElem_cons_succ, Option.isNone_some, Option.isNone_none, List.getD_cons_zero, List.getD_cons_succ, I.at, atL, atO, atP, evp, evs, retV, ↓reduceIte, Nat.reduceEqDiff, reduceCtorEq]; exact t15, by simp only [WS, List.getElem_cons_zero, List.getElem_cons_succ, Option.isNone_some, Option.isNone_none, List.getD_cons_zero, List.getD_cons_succ, I.at, atL, atO, atP, evp, evs, retV, ↓reduceIte, Nat.reduceEqDiff, reduceCtorEq]; exact t16, B, 0, m, rfl, by omega, ov, ml, fun u => by
        rw [mc u]
        by_cases hu : u < j
        · rw [if_pos hu, if_pos hu]
        · rw [if_neg hu, if_neg hu]; split <;> rfl⟩ ?_
    clear t0 t4 t15 t16 B ov ml mc
    rintro t w3 ⟨t0, t4, t5, t15, t16, B, i, m, t6, hi, ov, ml, mc⟩
    have hi0 := Nat.two_pow_pos i
    have hi16 := pow_le16' (Nat.le_trans hi hk)
    by_cases hji : j + 2 ^ i < 2 ^ k
    · have hik : i < k := by
        rcases Nat.lt_or_ge i k with h1 | h1
        · exact h1
        · have := Nat.pow_le_pow_right (show 0 < 2 by omega) h1
          omega
      have e1 : bitsOp .and .i64 (j : Int) ((2 ^ i : Nat) : Int) = ((j &&& 2 ^ i : Nat) : Int) := bits_and fits_i64 (by omega) (by omega)
      rw [and_pow] at e1
      have e2 : shlV .i64 ((2 ^ i : Nat) : Int) 1 = ((2 ^ (i + 1) : Nat) : Int) := by
        have := shl_nat fits_i64 (2 ^ i) 1 (by decide) (by omega)
        rw [Nat.shiftLeft_eq, ← Nat.pow_add] at this
        exact this
      have hp1 : 2 ^ (i + 1) = 2 * 2 ^ i := by rw [Nat.pow_succ, Nat.mul_comm]
      have jm : j < m.length := by omega
      have jl : j + 2 ^ i < l.length := by omega
      have hsum : ∀ x : El 16, (if j.testBit i then 0 else (co l).c (j + 2 ^ i)) = x → esum (i + 1) (fun i => if j.testBit i then 0 else (co l).c (j + 2 ^ i)) = esum i (fun i => if j.testBit i then 0 else (co l).c (j + 2 ^ i)) + x := fun x hx => by rw [← hx]; rfl
      by_cases hbit : j.testBit i = true
      · rw [if_pos hbit] at e1
        simp (maxSteps := 1000000) (disch := omega) only [WS, List.getElem_cons_zero, List.getElem_cons_succ, Option.isNone_some, Option.isNone_none, List.getD_cons_zero, List.getD_cons_succ, I.at, atL, atO, atP, evp, evs, retV, ↓reduceIte, Nat.reduceEqDiff, reduceCtorEq, AS, t0, t4, t5, t6, t15, t16, (h.up B).Xlen, hlk, e1, X_shl, e2, show ((0 : Int) ≤ 1) = True from eq_true (by decide)]
        refine ⟨⟨B, i + 1, m, rfl, by omega, ov, ml, fun u => ?_⟩, by omega⟩
        rw [mc u, hsum 0 (by rw [if_pos hbit]), El.add_zero]
      · have hbit' : j.testBit i = false := by simpa using hbit
        rw [if_neg hbit] at e1
        simp (maxSteps := 1000000) (disch := omega) only [WS, List.getElem_cons_zero, List.getElem_cons_succ, Option.isNone_some, Option.isNone_none, List.getD_cons_zero, List.getD_cons_succ, I.at, atL, atO, atP, evp, evs, retV, ↓reduceIte, Nat.reduceEqDiff, reduceCtorEq, AS, t0, t4, t5, t6, t15, t16, (h.up B).Xlen, hlk, e1, show decide (((0 : Nat) : Int) = 0) = true from rfl]
        refine WP_dops ?_
        have hsd := (h.up B).drew
        have hvd := ov.sl.drew
        simp (maxSteps := 1000000) (disch := omega) only [ES, List.mem_cons, List.not_mem_nil, implies_true, forall_const, WS, List.getElem_cons_zero, List.getElem_cons_succ, Option.isNone_some, Option.isNone_none, List.getD_cons_zero, List.getD_cons_succ, I.at, atL, atO, atP, evp, evs, retV, ↓reduceIte, Nat.reduceEqDiff, reduceCtorEq, AS, t0, t4, t5, t6, t15, t16, hvd.Eix jm, hvd.Eld jm, hsd.Eix jl, hsd.Eld jl, cell_e16, xor16]
        refine Ow.Est ov.drew jm (m[j] + l[j + 2 ^ i]) fun w7 ov7 hg7 => ?_
        simp (maxSteps := 1000000) (disch := omega) only [ES, List.mem_cons, List.not_mem_nil, implies_true, forall_const, WS, List.getElem_cons_zero, List.getElem_cons_succ, Option.isNone_some, Option.isNone_none, List.getD_cons_zero, List.getD_cons_succ, I.at, atL, atO, atP, evp, evs, retV, ↓reduceIte, Nat.reduceEqDiff, reduceCtorEq, AS, t0, t4, t5, t6, t15, t16]
        simp (maxSteps := 1000000) (disch := omega) only [WS, List.getElem_cons_zero, List.getElem_cons_succ, Option.isNone_some, Option.isNone_none, List.getD_cons_zero, List.getD_cons_succ, I.at, atL, atO, atP, evp, evs, retV, ↓reduceIte, Nat.reduceEqDiff, reduceCtorEq, AS, t0, t4, t5, t6, t15, t16, X_shl, e2, show ((0 : Int) ≤ 1) = True from eq_true (by decide)]
        refine ⟨⟨B.grown (grown_of_drew hg7) B.size fun b hb => (ov.blk b hb).1, i + 1, _, rfl, by omega, ov7, by simp [ml], fun u => ?_⟩, by omega⟩
        rw [co_set _ jm, hsum _ (if_neg hbit), ← co_get m jm, ← co_get l jl, mc u, mc j]
        by_cases hu : u = j
        · subst hu
          rw [if_pos rfl, if_neg (by omega), if_pos rfl, if_neg (by omega), if_pos rfl]
        · rw [if_neg hu, if_neg hu, if_neg hu]
    · have hst := dX_stop (co l).c hjk hi (by omega)
      simp (maxSteps := 1000000) (disch := omega) only [WS, List.getElem_cons_zero, List.getElem_cons_succ, Option.isNone_some, Option.isNone_none, List.getD_cons_zero, List.getD_cons_succ, I.at, atL, atO, atP, evp, evs, retV, ↓reduceIte, Nat.reduceEqDiff, reduceCtorEq, AS, t0, t4, t5, t6, t15, t16, (h.up B).Xlen, hlk]
      refine ⟨⟨B, j + 1, m, rfl, by omega, ov, ml, fun u => ?_⟩, by omega⟩
      rw [mc u, hst]
      by_cases hu : u < j
      · rw [if_pos hu, if_pos (by omega)]
      · rw [if_neg hu]
        by_cases hu2 : u = j
        · subst hu2; rw [if_pos rfl, if_pos (by omega)]
        · rw [if_neg hu2, if_neg (by omega)]
  · obtain rfl : j = 2 ^ k := by omega
    simp (maxSteps := 1000000) (disch := omega) only [WS, List.getElem_cons_zero, List.getElem_cons_succ, Option.isNone_some, Option.isNone_none, List.getD_cons_zero, List.getD_cons_succ, I.at, atL, atO, atP, evp, evs, retV, ↓reduceIte, Nat.reduceEqDiff, reduceCtorEq, AS, t0, t4, t15, t16]
    exact ⟨B, Or.inl ⟨k, hk, rfl, sv, m, rfl, ov, ml, fun j hj => by rw [mc j, if_pos hj]⟩⟩
end Go.Proofs.Ytcnabolainmaeaa.Fw
