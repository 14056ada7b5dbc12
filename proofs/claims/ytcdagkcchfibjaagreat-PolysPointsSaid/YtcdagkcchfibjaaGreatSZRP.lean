import Derived.Test.YtcdagkcchfibjaaGreatProg
import Derived.Test.YtcdagkcchfibjaaGreatFwTP
import Derived.Test.YtcdagkcchfibjaaGreatSZQP
set_option linter.all false
set_option linter.unusedVariables false
set_option linter.unusedSimpArgs false
set_option maxRecDepth 100000
set_option maxHeartbeats 1000000
namespace Go.Proofs.YtcdagkcchfibjaaGreat.Fw
open Go Go.Fw Go.Proofs
attribute [local irreducible] stepI
def c_culletlaw04_PolysPoints : C := .seq (.ops [⟨0, (some 2), none, .mov (.c (.bool false)), []⟩]) (.seq (.ops [⟨0, (some 3), none, .mov (.t 0), []⟩, ⟨1, (some 4), none, .call (.c (.func (.func 7) #[] #[])) [.t 3, .c (.int .i64 8), .c (.int .i64 9)], []⟩, ⟨2, (some 2), none, .mov (.t 4), []⟩]) .ret)
attribute [irreducible] c_culletlaw04_PolysPoints
theorem run_culletlaw04_PolysPoints {args : List Value} {w : World} {K : Value → World → Prop} (hn : args.length ≤ 5) (h : WP Tryz.prog c_culletlaw04_PolysPoints (endQ [.t 2] K) (initT args) w) : CallV Tryz.prog 5 args w K :=
  call_of follows Tryz.func5 (by kernel_rfl) (by kernel_rfl) hn h
def c_culletlaw04_all : C := .seq (.ops [⟨0, (some 6), none, .mov (.c (.bool false)), []⟩]) (.seq (.ops [⟨0, (some 10), none, .call (.c (.func (.func 8) #[] #[])) [], []⟩, ⟨1, (some 7), none, .alloc 28 [.pointer none, .pointer none], []⟩, ⟨2, none, none, .stn 2 (.t 7) (.t 10), []⟩]) (.seq (.seq (.ops [⟨0, (some 11), none, .ldn 2 (.t 7), []⟩, ⟨1, (some 12), none, .call (.c (.func (.func 9) #[] #[])) [.t 11], []⟩, ⟨2, (some 13), none, .un .not (.t 12), []⟩]) (.ite (.t 13) (.seq (.ops [⟨0, (some 6), none, .mov (.c (.bool false)), []⟩]) .ret) .skip)) (.seq (.seq (.ops [⟨0, (some 14), none, .mov (.t 0), []⟩, ⟨1, (some 15), none, .len (.t 14), []⟩, ⟨2, (some 16), none, .mov (.c (.int .i64 0)), []⟩]) (.block 0 (.loop (.seq (.ops [⟨0, (some 17), none, .bin .lss (.t 16) (.t 15), []⟩]) (.seq (.ite (.t 17) .skip (.exit 0)) (.seq (.block 1 (.seq (.ops [⟨0, (some 18), none, .ixs 6 (.t 14) (.t 16), []⟩, ⟨1, (some 19), none, .ldn 6 (.t 18), []⟩, ⟨2, (some 9), none, .alloc 34 [.int .i64 0, .bool false, .slice none 0 0, .slice none 0 0, .int .u16 0, .int .i64 0], []⟩, ⟨3, none, none, .stn 6 (.t 9) (.t 19), []⟩]) (.seq (.ops [⟨0, (some 20), none, .fad 0 (.t 9), []⟩, ⟨1, (some 21), none, .ld (.t 20), []⟩, ⟨2, (some 22), none, .mov (.t 1), []⟩, ⟨3, (some 23), none, .bin .geq (.t 21) (.t 22), []⟩, ⟨4, (some 24), none, .mov (.t 23), []⟩, ⟨5, (some 25), (some (24, true)), .fad 0 (.t 9), []⟩, ⟨6, (some 26), (some (24, true)), .ld (.t 25), []⟩, ⟨7, (some 27), (some (24, true)), .mov (.t 2), []⟩, ⟨8, (some 28), (some (24, true)), .bin .leq (.t 26) (.t 27), []⟩, ⟨9, (some 29), none, .pick (.t 24) (.t 28) (.c (.bool false)), []⟩, ⟨10, (some 30), none, .mov (.t 29), []⟩, ⟨11, (some 31), (some (30, true)), .ldn 2 (.t 7), []⟩, ⟨12, (some 32), (some (30, true)), .ldn 6 (.t 9), []⟩, ⟨13, (some 33), (some (30, true)), .call (.c (.func (.func 10) #[] #[])) [.t 31, .t 32], []⟩, ⟨14, (some 34), (some (30, true)), .un .not (.t 33), []⟩, ⟨15, (some 35), none, .pick (.t 30) (.t 34) (.c (.bool false)), []⟩]) (.ite (.t 35) (.seq (.ops [⟨0, (some 6), none, .mov (.c (.bool false)), []⟩]) .ret) .skip)))) (.ops [⟨0, (some 36), none, .bin .add (.t 16) (.c (.int .i64 1)), []⟩, ⟨1, (some 16), none, .mov (.t 36), []⟩]))))))) (.seq (.ops [⟨0, (some 6), none, .mov (.c (.bool true)), []⟩]) .ret))))
attribute [irreducible] c_culletlaw04_all
theorem run_culletlaw04_all {args : List Value} {w : World} {K : Value → World → Prop} (hn : args.length ≤ 37) (h : WP Tryz.prog c_culletlaw04_all (endQ [.t 6] K) (initT args) w) : CallV Tryz.prog 7 args w K :=
  call_of follows Tryz.func7 (by kernel_rfl) (by kernel_rfl) hn h
def c_culletlaw04_plays : C := .seq (.ops [⟨0, (some 2), none, .box 28 (.t 0), []⟩, ⟨1, (some 3), none, .box 34 (.t 1), []⟩, ⟨2, (some 4), none, .mov (.c (.bool false)), []⟩]) (.seq (.ops [⟨0, (some 7), none, .fad 1 (.t 3), []⟩, ⟨1, (some 8), none, .ld (.t 7), []⟩, ⟨2, (some 9), none, .fad 2 (.t 3), []⟩, ⟨3, (some 10), none, .ld (.t 9), []⟩, ⟨4, (some 11), none, .call (.c (.func (.func 16) #[] #[])) [.t 8, .t 10], []⟩, ⟨5, (some 5), none, .mov (.t 11), []⟩]) (.seq (.ops [⟨0, (some 12), none, .fad 1 (.t 3), []⟩, ⟨1, (some 13), none, .ld (.t 12), []⟩, ⟨2, (some 14), none, .fad 3 (.t 3), []⟩, ⟨3, (some 15), none, .ld (.t 14), []⟩, ⟨4, (some 16), none, .call (.c (.func (.func 16) #[] #[])) [.t 13, .t 15], []⟩, ⟨5, (some 6), none, .mov (.t 16), []⟩]) (.seq (.seq (.ops [⟨0, (some 17), none, .fad 0 (.t 3), []⟩, ⟨1, (some 18), none, .ld (.t 17), []⟩]) (.block 0 (.seq (.seq (.ops [⟨0, (some 20), none, .bin .eql (.t 18) (.c (.int .i64 1)), []⟩, ⟨1, (some 19), none, .mov (.t 20), []⟩]) (.ite (.t 19) .skip (.seq (.ops [⟨0, (some 21), none, .bin .eql (.t 18) (.c (.int .i64 2)), []⟩, ⟨1, (some 19), none, .mov (.t 21), []⟩]) (.ite (.t 19) .skip (.seq (.ops [⟨0, (some 22), none, .bin .eql (.t 18) (.c (.int .i64 3)), []⟩, ⟨1, (some 19), none, .mov (.t 22), []⟩]) (.ite (.t 19) .skip (.ops [⟨0, (some 23), none, .bin .eql (.t 18) (.c (.int .i64 4)), []⟩, ⟨1, (some 19), none, .mov (.t 23), []⟩]))))))) (.ite (.t 19) (.seq (.ops [⟨0, (some 24), none, .ldn 2 (.t 2), []⟩, ⟨1, (some 25), none, .ldn 6 (.t 3), []⟩, ⟨2, (some 26), none, .mov (.t 5), []⟩, ⟨3, (some 27), none, .mov (.t 6), []⟩, ⟨4, (some 28), none, .call (.c (.func (.func 17) #[] #[])) [.t 24, .t 25, .t 26, .t 27], []⟩, ⟨5, (some 4), none, .mov (.t 28), []⟩]) .ret) (.seq (.seq (.ops [⟨0, (some 30), none, .bin .eql (.t 18) (.c (.int .i64 5)), []⟩, ⟨1, (some 29), none, .mov (.t 30), []⟩]) (.ite (.t 29) .skip (.seq (.ops [⟨0, (some 31), none, .bin .eql (.t 18) (.c (.int .i64 6)), []⟩, ⟨1, (some 29), none, .mov (.t 31), []⟩]) (.ite (.t 29) .skip (.ops [⟨0, (some 32), none, .bin .eql (.t 18) (.c (.int .i64 7)), []⟩, ⟨1, (some 29), none, .mov (.t 32), []⟩]))))) (.ite (.t 29) (.seq (.ops [⟨0, (some 33), none, .ldn 2 (.t 2), []⟩, ⟨1, (some 34), none, .ldn 6 (.t 3), []⟩, ⟨2, (some 35), none, .mov (.t 5), []⟩, ⟨3, (some 36), none, .mov (.t 6), []⟩, ⟨4, (some 37), none, .call (.c (.func (.func 18) #[] #[])) [.t 33, .t 34, .t 35, .t 36], []⟩, ⟨5, (some 4), none, .mov (.t 37), []⟩]) .ret) (.seq (.seq (.ops [⟨0, (some 39), none, .bin .eql (.t 18) (.c (.int .i64 8)), []⟩, ⟨1, (some 38), none, .mov (.t 39), []⟩]) (.ite (.t 38) .skip (.ops [⟨0, (some 40), none, .bin .eql (.t 18) (.c (.int .i64 9)), []⟩, ⟨1, (some 38), none, .mov (.t 40), []⟩]))) (.ite (.t 38) (.seq (.ops [⟨0, (some 41), none, .ldn 2 (.t 2), []⟩, ⟨1, (some 42), none, .ldn 6 (.t 3), []⟩, ⟨2, (some 43), none, .mov (.t 5), []⟩, ⟨3, (some 44), none, .mov (.t 6), []⟩, ⟨4, (some 45), none, .call (.c (.func (.func 19) #[] #[])) [.t 41, .t 42, .t 43, .t 44], []⟩, ⟨5, (some 4), none, .mov (.t 45), []⟩]) .ret) (.seq (.ops [⟨0, (some 47), none, .bin .eql (.t 18) (.c (.int .i64 10)), []⟩, ⟨1, (some 46), none, .mov (.t 47), []⟩]) (.ite (.t 46) (.seq (.ops [⟨0, (some 48), none, .ldn 2 (.t 2), []⟩, ⟨1, (some 49), none, .ldn 6 (.t 3), []⟩, ⟨2, (some 50), none, .mov (.t 5), []⟩, ⟨3, (some 51), none, .mov (.t 6), []⟩, ⟨4, (some 52), none, .call (.c (.func (.func 20) #[] #[])) [.t 48, .t 49, .t 50, .t 51], []⟩, ⟨5, (some 4), none, .mov (.t 52), []⟩]) .ret) .skip)))))))))) (.seq (.ops [⟨0, (some 4), none, .mov (.c (.bool true)), []⟩]) .ret))))
attribute [irreducible] c_culletlaw04_plays
theorem run_culletlaw04_plays {args : List Value} {w : World} {K : Value → World → Prop} (hn : args.length ≤ 53) (h : WP Tryz.prog c_culletlaw04_plays (endQ [.t 4] K) (initT args) w) : CallV Tryz.prog 10 args w K :=
  call_of follows Tryz.func10 (by kernel_rfl) (by kernel_rfl) hn h
end Go.Proofs.YtcdagkcchfibjaaGreat.Fw
namespace Go.Proofs.YtcdagkcchfibjaaGreat.Fw
open Go Go.Fw
section
variable {n_ : Nat} {u_ : List Nat} {rs_ : List RN} {es_ : List EN}
end
end Go.Proofs.YtcdagkcchfibjaaGreat.Fw

namespace Go.Proofs.YtcdagkcchfibjaaGreat.Fw
open Go Go.Fw
theorem culletlaw04_plays89_spec (w : World) (rb rw : Value) (vs : List Value) (k : Int) (hb : Ring_b w rb) (hw : Ring_w w rw) (hop : OpQ w vs k) (hk : k = 8 ∨ k = 9) :
    CallV Tryz.prog 10 [.agg #[rb, rw], .agg vs.toArray] w fun v w' => v = .bool true ∧ RowKit.Below w.heap.size w w' := by
  obtain ⟨f, F, G, LF, LG, x, n, rfl, hF, hG, lF, lG⟩ := hop
  have hk' := hk
  refine run_culletlaw04_plays (by simp) ?_
  simp only [c_culletlaw04_plays, WS, List.getElem_cons_zero, List.getElem_cons_succ, Option.isNone_some, Option.isNone_none, List.getD_cons_zero, List.getD_cons_succ, I.at, atL, atO, atP, evp, evs, retV, ↓reduceIte, Nat.reduceEqDiff, reduceCtorEq]
  refine X_box fun b w1 hr hlb hB => ?_
  have hr : Row w1 b [rb, rw] := hr
  have B := hB
  have hb := hb.up hB
  have hw := hw.up hB
  have hF := hF.up hB
  have hG := hG.up hB
  clear hB hlb
  simp (maxSteps := 1000000) (disch := omega) only [WS, List.getElem_cons_zero, List.getElem_cons_succ, Option.isNone_some, Option.isNone_none, List.getD_cons_zero, List.getD_cons_succ, I.at, atL, atO, atP, evp, evs, retV, ↓reduceIte, Nat.reduceEqDiff, reduceCtorEq, AS]
  refine X_box fun bo w2 hro hlb hB => ?_
  have hro : Row w2 bo [.int .i64 k, .bool f, F, G, .int .u16 (x.v.toNat : Int), .int .i64 n] := hro
  have hb := hb.up hB
  have hw := hw.up hB
  have hF := hF.up hB
  have hG := hG.up hB
  have hr := hr.up hB
  have B := B.trans (hB.mono B.size)
  clear hB
  clear hlb
  cases f
  · simp (maxSteps := 1000000) (disch := omega) only [WS, List.getElem_cons_zero, List.getElem_cons_succ, Option.isNone_some, Option.isNone_none, List.getD_cons_zero, List.getD_cons_succ, I.at, atL, atO, atP, evp, evs, retV, ↓reduceIte, Nat.reduceEqDiff, reduceCtorEq, AS, row6_1 hro, row6_2 hro]
    refine X_call0 ((culletlaw04_cut_b_spec w2 F LF hF lF).mono ?_)
    rintro s1 w3 ⟨o1, hB⟩
    have o1 := o1.sl
    have hb := hb.up hB
    have hw := hw.up hB
    have hG := hG.up hB
    have hr := hr.up hB
    have hro := hro.up hB
    have B := B.trans (hB.mono B.size)
    clear hB
    simp (maxSteps := 1000000) (disch := omega) only [WS, List.getElem_cons_zero, List.getElem_cons_succ, Option.isNone_some, Option.isNone_none, List.getD_cons_zero, List.getD_cons_succ, I.at, atL, atO, atP, evp, evs, retV, ↓reduceIte, Nat.reduceEqDiff, reduceCtorEq, AS, row6_1 hro, row6_3 hro]
    refine X_call0 ((culletlaw04_cut_b_spec w3 G LG hG lG).mono ?_)
    rintro s2 w4 ⟨o2, hB⟩
    have o2 := o2.sl
    have hb := hb.up hB
    have hw := hw.up hB
    have hr := hr.up hB
    have hro := hro.up hB
    have o1 := o1.up hB
    have B := B.trans (hB.mono B.size)
    clear hB
    have l1 : (LF.map lo8).length ≤ 70368744175616 := by rw [List.length_map]; exact lF
    have l2 : (LG.map lo8).length ≤ 70368744175616 := by rw [List.length_map]; exact lG
    rcases hk' with rfl | rfl
    · simp (maxSteps := 1000000) (disch := omega) only [WS, List.getElem_cons_zero, List.getElem_cons_succ, Option.isNone_some, Option.isNone_none, List.getD_cons_zero, List.getD_cons_succ, I.at, atL, atO, atP, evp, evs, retV, ↓reduceIte, Nat.reduceEqDiff, reduceCtorEq, AS, row6_0 hro, hr.Xldn (n := 2) rfl, hro.Xldn (n := 6) rfl, show decide ((8 : Int) = 1) = false from rfl, show decide ((8 : Int) = 2) = false from rfl, show decide ((8 : Int) = 3) = false from rfl, show decide ((8 : Int) = 4) = false from rfl, show decide ((8 : Int) = 5) = false from rfl, show decide ((8 : Int) = 6) = false from rfl, show decide ((8 : Int) = 7) = false from rfl, show decide ((8 : Int) = 8) = true from rfl, show decide ((8 : Int) = 9) = false from rfl, show decide ((8 : Int) = 10) = false from rfl]
      refine X_call0 ((culletlaw04_points8_b_spec w4 rb rw F G s1 s2 _ _ x n hb hw o1 o2 l1 l2).mono ?_)
      rintro _ w5 ⟨rfl, hB⟩
      have B := B.trans (hB.mono B.size)
      clear hB
      simp (maxSteps := 1000000) (disch := omega) only [WS, List.getElem_cons_zero, List.getElem_cons_succ, Option.isNone_some, Option.isNone_none, List.getD_cons_zero, List.getD_cons_succ, I.at, atL, atO, atP, evp, evs, retV, ↓reduceIte, Nat.reduceEqDiff, reduceCtorEq, AS]
      exact B
    · simp (maxSteps := 1000000) (disch := omega) only [WS, List.getElem_cons_zero, List.getElem_cons_succ, Option.isNone_some, Option.isNone_none, List.getD_cons_zero, List.getD_cons_succ, I.at, atL, atO, atP, evp, evs, retV, ↓reduceIte, Nat.reduceEqDiff, reduceCtorEq, AS, row6_0 hro, hr.Xldn (n := 2) rfl, hro.Xldn (n := 6) rfl, show decide ((9 : Int) = 1) = false from rfl, show decide ((9 : Int) = 2) = false from rfl, show decide ((9 : Int) = 3) = false from rfl, show decide ((9 : Int) = 4) = false from rfl, show decide ((9 : Int) = 5) = false from rfl, show decide ((9 : Int) = 6) = false from rfl, show decide ((9 : Int) = 7) = false from rfl, show decide ((9 : Int) = 8) = false from rfl, show decide ((9 : Int) = 9) = true from rfl, show decide ((9 : Int) = 10) = false from rfl]
      refine X_call0 ((culletlaw04_points9_b_spec w4 rb rw F G s1 s2 _ _ x n hb hw o1 o2 l1 l2).mono ?_)
      rintro _ w5 ⟨rfl, hB⟩
      have B := B.trans (hB.mono B.size)
      clear hB
      simp (maxSteps := 1000000) (disch := omega) only [WS, List.getElem_cons_zero, List.getElem_cons_succ, Option.isNone_some, Option.isNone_none, List.getD_cons_zero, List.getD_cons_succ, I.at, atL, atO, atP, evp, evs, retV, ↓reduceIte, Nat.reduceEqDiff, reduceCtorEq, AS]
      exact B
  · simp (maxSteps := 1000000) (disch := omega) only [WS, List.getElem_cons_zero, List.getElem_cons_succ, Option.isNone_some, Option.isNone_none, List.getD_cons_zero, List.getD_cons_succ, I.at, atL, atO, atP, evp, evs, retV, ↓reduceIte, Nat.reduceEqDiff, reduceCtorEq, AS, row6_1 hro, row6_2 hro]
    refine X_call0 ((culletlaw04_cut_w_spec w2 F LF hF lF).mono ?_)
    rintro s1 w3 ⟨o1, hB⟩
    have o1 := o1.sl
    have hb := hb.up hB
    have hw := hw.up hB
    have hG := hG.up hB
    have hr := hr.up hB
    have hro := hro.up hB
    have B := B.trans (hB.mono B.size)
    clear hB
    simp (maxSteps := 1000000) (disch := omega) only [WS, List.getElem_cons_zero, List.getElem_cons_succ, Option.isNone_some, Option.isNone_none, List.getD_cons_zero, List.getD_cons_succ, I.at, atL, atO, atP, evp, evs, retV, ↓reduceIte, Nat.reduceEqDiff, reduceCtorEq, AS, row6_1 hro, row6_3 hro]
    refine X_call0 ((culletlaw04_cut_w_spec w3 G LG hG lG).mono ?_)
    rintro s2 w4 ⟨o2, hB⟩
    have o2 := o2.sl
    have hb := hb.up hB
    have hw := hw.up hB
    have hr := hr.up hB
    have hro := hro.up hB
    have o1 := o1.up hB
    have B := B.trans (hB.mono B.size)
    clear hB
    have l1 : (LF.map lo16).length ≤ 70368744175616 := by rw [List.length_map]; exact lF
    have l2 : (LG.map lo16).length ≤ 70368744175616 := by rw [List.length_map]; exact lG
    rcases hk' with rfl | rfl
    · simp (maxSteps := 1000000) (disch := omega) only [WS, List.getElem_cons_zero, List.getElem_cons_succ, Option.isNone_some, Option.isNone_none, List.getD_cons_zero, List.getD_cons_succ, I.at, atL, atO, atP, evp, evs, retV, ↓reduceIte, Nat.reduceEqDiff, reduceCtorEq, AS, row6_0 hro, hr.Xldn (n := 2) rfl, hro.Xldn (n := 6) rfl, show decide ((8 : Int) = 1) = false from rfl, show decide ((8 : Int) = 2) = false from rfl, show decide ((8 : Int) = 3) = false from rfl, show decide ((8 : Int) = 4) = false from rfl, show decide ((8 : Int) = 5) = false from rfl, show decide ((8 : Int) = 6) = false from rfl, show decide ((8 : Int) = 7) = false from rfl, show decide ((8 : Int) = 8) = true from rfl, show decide ((8 : Int) = 9) = false from rfl, show decide ((8 : Int) = 10) = false from rfl]
      refine X_call0 ((culletlaw04_points8_w_spec w4 rb rw F G s1 s2 _ _ x n hb hw o1 o2 l1 l2).mono ?_)
      rintro _ w5 ⟨rfl, hB⟩
      have B := B.trans (hB.mono B.size)
      clear hB
      simp (maxSteps := 1000000) (disch := omega) only [WS, List.getElem_cons_zero, List.getElem_cons_succ, Option.isNone_some, Option.isNone_none, List.getD_cons_zero, List.getD_cons_succ, I.at, atL, atO, atP, evp, evs, retV, ↓reduceIte, Nat.reduceEqDiff, reduceCtorEq, AS]
      exact B
    · simp (maxSteps := 1000000) (disch := omega) only [WS, List.getElem_cons_zero, List.getElem_cons_succ, Option.isNone_some, Option.isNone_none, List.getD_cons_zero, List.getD_cons_succ, I.at, atL, atO, atP, evp, evs, retV, ↓reduceIte, Nat.reduceEqDiff, reduceCtorEq, AS, row6_0 hro, hr.Xldn (n := 2) rfl, hro.Xldn (n := 6) rfl, show decide ((9 : Int) = 1) = false from rfl, show decide ((9 : Int) = 2) = false from rfl, show decide ((9 : Int) = 3) = false from rfl, show decide ((9 : Int) = 4) = false from rfl, show decide ((9 : Int) = 5) = false from rfl, show decide ((9 : Int) = 6) = false from rfl, show decide ((9 : Int) = 7) = false from rfl, show decide ((9 : Int) = 8) = false from rfl, show decide ((9 : Int) = 9) = true from rfl, show decide ((9 : Int) = 10) = false from rfl]
      refine X_call0 ((culletlaw04_points9_w_spec w4 rb rw F G s1 s2 _ _ x n hb hw o1 o2 l1 l2).mono ?_)
      rintro _ w5 ⟨rfl, hB⟩
      have B := B.trans (hB.mono B.size)
      clear hB
      simp (maxSteps := 1000000) (disch := omega) only [WS, List.getElem_cons_zero, List.getElem_cons_succ, Option.isNone_some, Option.isNone_none, List.getD_cons_zero, List.getD_cons_succ, I.at, atL, atO, atP, evp, evs, retV, ↓reduceIte, Nat.reduceEqDiff, reduceCtorEq, AS]
      exact B
theorem culletlaw04_all89_spec (w : World) (s : Value) (rows : List (List Value)) (lo hi : Int) (h : Slw 6 w s rows) (hbd : rows.length ≤ 70368744175616) (hq : ∀ vs ∈ rows, ∃ k, OpQ w vs k) (hk : ∀ k : Int, lo ≤ k → k ≤ hi → k = 8 ∨ k = 9) :
    CallV Tryz.prog 7 [s, .int .i64 lo, .int .i64 hi] w fun v w' => v = .bool true ∧ RowKit.Below w.heap.size w w' := by
  refine run_culletlaw04_all (by simp) ?_
  simp only [c_culletlaw04_all, WS, List.getElem_cons_zero, List.getElem_cons_succ, Option.isNone_some, Option.isNone_none, List.getD_cons_zero, List.getD_cons_succ, I.at, atL, atO, atP, evp, evs, retV, ↓reduceIte, Nat.reduceEqDiff, reduceCtorEq]
  refine X_call0 ((culletlaw04_both_spec w).mono ?_)
  rintro _ w1 ⟨rb, rw, rfl, hb, hw, hB⟩
  have B := hB
  clear hB
  simp (maxSteps := 1000000) (disch := omega) only [WS, List.getElem_cons_zero, List.getElem_cons_succ, Option.isNone_some, Option.isNone_none, List.getD_cons_zero, List.getD_cons_succ, I.at, atL, atO, atP, evp, evs, retV, ↓reduceIte, Nat.reduceEqDiff, reduceCtorEq, AS]
  refine X_alloc fun b w2 hr3 hb3 hB => ?_
  have s8 : scal rb = true := by obtain ⟨_, _, _, rfl, _⟩ := hb; rfl
  have s16 : scal rw = true := by obtain ⟨_, _, _, rfl, _⟩ := hw; rfl
  simp (maxSteps := 1000000) (disch := omega) only [WS, List.getElem_cons_zero, List.getElem_cons_succ, Option.isNone_some, Option.isNone_none, List.getD_cons_zero, List.getD_cons_succ, I.at, atL, atO, atP, evp, evs, retV, ↓reduceIte, Nat.reduceEqDiff, reduceCtorEq, AS]
  refine Row.Xstn (vs := [rb, rw]) hr3 rfl (by simp [s8, s16]) (by simp) fun w3 hr hg => ?_
  have hB := Below.row hB hb3 hg
  clear hg hr3 hb3
  have hb := hb.up hB
  have hw := hw.up hB
  have B := B.trans (hB.mono B.size)
  clear hB
  simp (maxSteps := 1000000) (disch := omega) only [WS, List.getElem_cons_zero, List.getElem_cons_succ, Option.isNone_some, Option.isNone_none, List.getD_cons_zero, List.getD_cons_succ, I.at, atL, atO, atP, evp, evs, retV, ↓reduceIte, Nat.reduceEqDiff, reduceCtorEq, AS, hr.Xldn (n := 2) rfl]
  refine X_call0 ((culletlaw04_awake_spec w3 rb rw hb hw).mono ?_)
  rintro _ w4 ⟨rfl, hB⟩
  have hb := hb.up hB
  have hw := hw.up hB
  have hr := hr.up hB
  have B := B.trans (hB.mono B.size)
  clear hB
  simp (maxSteps := 1000000) (disch := omega) only [WS, List.getElem_cons_zero, List.getElem_cons_succ, Option.isNone_some, Option.isNone_none, List.getD_cons_zero, List.getD_cons_succ, I.at, atL, atO, atP, evp, evs, retV, ↓reduceIte, Nat.reduceEqDiff, reduceCtorEq, AS, (h.up B).Xlen]
  refine loop_of (fun t w' => t 1 = .int .i64 lo ∧ t 2 = .int .i64 hi ∧ t 7 = .pointer (some ⟨b, 0, none⟩) ∧ t 14 = s ∧ t 15 = .int .i64 (rows.length : Int) ∧ RowKit.Below w.heap.size w w' ∧ RowKit.Below w4.heap.size w4 w' ∧ ∃ n : Nat, t 16 = .int .i64 (n : Int) ∧ n ≤ rows.length) (fun t _ => rows.length - (toI (t 16)).toNat) ⟨by simp only [WS, List.getElem_cons_zero, List.getElem_cons_succ, Option.isNone_some, Option.isNone_none, List.getD_cons_zero, List.getD_cons_succ, I.at, atL, atO, atP, evp, evs, retV, ↓reduceIte, Nat.reduceEqDiff, reduceCtorEq], by simp only [WS, List.getElem_cons_zero, List.getElem_cons_succ, Option.isNone_some, Option.isNone_none, List.getD_cons_zero, List.getD_cons_succ, I.at, atL, atO, atP, evp, evs, retV, ↓reduceIte, Nat.reduceEqDiff, reduceCtorEq], by simp only [WS, List.getElem_cons_zero, List.getElem_cons_succ, Option.isNone_some, Option.isNone_none, List.getD_cons_zero, List.getD_cons_succ, I.at, atL, atO, atP, evp, evs, retV, ↓reduceIte, Nat.reduceEqDiff, reduceCtorEq], by simp only [WS, List.getElem_cons_zero, List.getElem_cons_succ, Option.isNone_some, Option.isNone_none, List.getD_cons_zero, List.getD_cons_succ, I.at, atL, atO, atP, evp, evs, retV, ↓reduceIte, Nat.reduceEqDiff, reduceCtorEq], by simp only [WS, List.getElem_cons_zero, List.getElem_cons_succ, Option.isNone_some, Option.isNone_none, List.getD_cons_zero, List.getD_cons_succ, I.at, atL, atO, atP, evp, evs, retV, ↓reduceIte, Nat.reduceEqDiff, reduceCtorEq], B, RowKit.Below.refl _ _, 0, rfl, by omega⟩ ?_
  clear B
  rintro t w5 ⟨t1, t2, t7, t14, t15, B, C, n, t16, hn⟩
  by_cases hlt : n < rows.length
  · have hs := h.up B
    obtain ⟨k, hop⟩ := hq _ (List.getElem_mem hlt)
    have hop := hop.up B
    have hl6 := h.ln _ (List.getElem_mem hlt)
    have hb := hb.up C
    have hw := hw.up C
    have hr := hr.up C
    simp (maxSteps := 1000000) (disch := omega) only [WS, List.getElem_cons_zero, List.getElem_cons_succ, Option.isNone_some, Option.isNone_none, List.getD_cons_zero, List.getD_cons_succ, I.at, atL, atO, atP, evp, evs, retV, ↓reduceIte, Nat.reduceEqDiff, reduceCtorEq, AS, t1, t2, t7, t14, t15, t16, hs.Xix hlt, hs.Xldn hlt]
    generalize rows[n] = vs at hop hl6
    obtain ⟨f, F, G, LF, LG, x, m, rfl, hF, hG, lF, lG⟩ := hop
    refine X_alloc fun bo w6 hro hb6 hB => ?_
    simp (maxSteps := 1000000) (disch := omega) only [WS, List.getElem_cons_zero, List.getElem_cons_succ, Option.isNone_some, Option.isNone_none, List.getD_cons_zero, List.getD_cons_succ, I.at, atL, atO, atP, evp, evs, retV, ↓reduceIte, Nat.reduceEqDiff, reduceCtorEq, AS, t1, t2, t7, t14, t15, t16]
    have hsc : ∀ u ∈ [Value.int .i64 k, .bool f, F, G, .int .u16 (x.v.toNat : Int), .int .i64 m], scal u = true := by
      obtain ⟨a, cap, rfl, -⟩ := hF.sh
      obtain ⟨a', cap', rfl, -⟩ := hG.sh
      intro u hu
      simp only [List.mem_cons, List.not_mem_nil, or_false] at hu
      rcases hu with rfl | rfl | rfl | rfl | rfl | rfl <;> rfl
    refine Row.Xstn hro hl6 hsc (by simp) fun w7 hro hg => ?_
    have hB := Below.row hB hb6 hg
    clear hg hb6
    have B := B.trans (hB.mono B.size)
    have C := C.trans (hB.mono C.size)
    have hb := hb.up hB
    have hw := hw.up hB
    have hr := hr.up hB
    have hF := hF.up hB
    have hG := hG.up hB
    clear hB
    have hop : OpQ w7 _ k := ⟨f, F, G, LF, LG, x, m, rfl, hF, hG, lF, lG⟩
    by_cases h1 : k < lo
    · simp (maxSteps := 1000000) (disch := omega) only [WS, List.getElem_cons_zero, List.getElem_cons_succ, Option.isNone_some, Option.isNone_none, List.getD_cons_zero, List.getD_cons_succ, I.at, atL, atO, atP, evp, evs, retV, ↓reduceIte, Nat.reduceEqDiff, reduceCtorEq, AS, t1, t2, t7, t14, t15, t16, row6_0 hro]
      exact ⟨⟨B, C, n + 1, rfl, by omega⟩, by omega⟩
    by_cases h2 : hi < k
    · simp (maxSteps := 1000000) (disch := omega) only [WS, List.getElem_cons_zero, List.getElem_cons_succ, Option.isNone_some, Option.isNone_none, List.getD_cons_zero, List.getD_cons_succ, I.at, atL, atO, atP, evp, evs, retV, ↓reduceIte, Nat.reduceEqDiff, reduceCtorEq, AS, t1, t2, t7, t14, t15, t16, row6_0 hro]
      exact ⟨⟨B, C, n + 1, rfl, by omega⟩, by omega⟩
    simp (maxSteps := 1000000) (disch := omega) only [WS, List.getElem_cons_zero, List.getElem_cons_succ, Option.isNone_some, Option.isNone_none, List.getD_cons_zero, List.getD_cons_succ, I.at, atL, atO, atP, evp, evs, retV, ↓reduceIte, Nat.reduceEqDiff, reduceCtorEq, AS, t1, t2, t7, t14, t15, t16, row6_0 hro, hr.Xldn (n := 2) rfl, hro.Xldn (n := 6) rfl]
    refine X_call0 ((culletlaw04_plays89_spec w7 rb rw _ k hb hw hop (hk k (by omega) (by omega))).mono ?_)
    rintro _ w8 ⟨rfl, hB⟩
    have B := B.trans (hB.mono B.size)
    have C := C.trans (hB.mono C.size)
    clear hB
    simp (maxSteps := 1000000) (disch := omega) only [WS, List.getElem_cons_zero, List.getElem_cons_succ, Option.isNone_some, Option.isNone_none, List.getD_cons_zero, List.getD_cons_succ, I.at, atL, atO, atP, evp, evs, retV, ↓reduceIte, Nat.reduceEqDiff, reduceCtorEq, AS, t1, t2, t7, t14, t15, t16]
    exact ⟨⟨B, C, n + 1, rfl, by omega⟩, by omega⟩
  · obtain rfl : n = rows.length := by omega
    simp (maxSteps := 1000000) (disch := omega) only [WS, List.getElem_cons_zero, List.getElem_cons_succ, Option.isNone_some, Option.isNone_none, List.getD_cons_zero, List.getD_cons_succ, I.at, atL, atO, atP, evp, evs, retV, ↓reduceIte, Nat.reduceEqDiff, reduceCtorEq, AS, t1, t2, t7, t14, t15, t16]
    exact B
theorem culletlaw04_PolysPoints_spec (w : World) (s : Value) (rows : List (List Value)) (h : Slw 6 w s rows) (hb : rows.length ≤ 70368744175616) (hq : ∀ vs ∈ rows, ∃ k, OpQ w vs k) :
    CallV Tryz.prog 5 [s] w fun v w' => v = .bool true ∧ RowKit.Below w.heap.size w w' := by
  refine run_culletlaw04_PolysPoints (by simp) ?_
  simp only [c_culletlaw04_PolysPoints, WS, List.getElem_cons_zero, List.getElem_cons_succ, Option.isNone_some, Option.isNone_none, List.getD_cons_zero, List.getD_cons_succ, I.at, atL, atO, atP, evp, evs, retV, ↓reduceIte, Nat.reduceEqDiff, reduceCtorEq]
  refine X_call0 ((culletlaw04_all89_spec w s rows 8 9 h hb hq (fun k h1 h2 => by omega)).mono ?_)
  rintro _ w1 ⟨rfl, hB⟩
  simp (maxSteps := 1000000) (disch := omega) only [WS, List.getElem_cons_zero, List.getElem_cons_succ, Option.isNone_some, Option.isNone_none, List.getD_cons_zero, List.getD_cons_succ, I.at, atL, atO, atP, evp, evs, retV, ↓reduceIte, Nat.reduceEqDiff, reduceCtorEq, AS]
  exact hB
end Go.Proofs.YtcdagkcchfibjaaGreat.Fw
