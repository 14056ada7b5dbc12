import Derived.Test.YtcnabolainmaeaaProg
import Derived.Test.YtcnabolainmaeaaFwTT
import Derived.Test.YtcnabolainmaeaaSS13nT
import Derived.Test.YtcnabolainmaeaaSS13fT
import Derived.Test.YtcnabolainmaeaaFwWT
set_option linter.all false
set_option linter.unusedVariables false
set_option linter.unusedSimpArgs false
set_option maxRecDepth 100000
set_option maxHeartbeats 1000000
namespace Go.Proofs.Ytcnabolainmaeaa.Fw
open Go Go.Fw Go.Proofs
attribute [local irreducible] stepI
def c_culletlaw13_all : C := .seq (.ops [⟨0, (some 6), none, .mov (.c (.bool false)), []⟩]) (.seq (.seq (.ops [⟨0, (some 9), none, .call (.c (.func (.func 12) #[] #[])) [], []⟩, ⟨1, (some 10), none, .un .not (.t 9), []⟩]) (.ite (.t 10) (.seq (.ops [⟨0, (some 6), none, .mov (.c (.bool false)), []⟩]) .ret) .skip)) (.seq (.seq (.ops [⟨0, (some 11), none, .mov (.t 0), []⟩, ⟨1, (some 12), none, .len (.t 11), []⟩, ⟨2, (some 13), none, .mov (.c (.int .i64 0)), []⟩]) (.block 0 (.loop (.seq (.ops [⟨0, (some 14), none, .bin .lss (.t 13) (.t 12), []⟩]) (.seq (.ite (.t 14) .skip (.exit 0)) (.seq (.block 1 (.seq (.ops [⟨0, (some 15), none, .ixs 5 (.t 11) (.t 13), []⟩, ⟨1, (some 16), none, .ldn 5 (.t 15), []⟩, ⟨2, (some 8), none, .alloc 63 [.int .i64 0, .int .i64 0, .int .i64 0, .int .u16 0, .slice none 0 0], []⟩, ⟨3, none, none, .stn 5 (.t 8) (.t 16), []⟩]) (.seq (.seq (.ops [⟨0, (some 17), none, .fad 0 (.t 8), []⟩, ⟨1, (some 18), none, .ld (.t 17), []⟩, ⟨2, (some 19), none, .mov (.t 1), []⟩, ⟨3, (some 20), none, .bin .lss (.t 18) (.t 19), []⟩, ⟨4, (some 21), none, .mov (.t 20), []⟩, ⟨5, (some 22), (some (21, false)), .fad 0 (.t 8), []⟩, ⟨6, (some 23), (some (21, false)), .ld (.t 22), []⟩, ⟨7, (some 24), (some (21, false)), .mov (.t 2), []⟩, ⟨8, (some 25), (some (21, false)), .bin .gtr (.t 23) (.t 24), []⟩, ⟨9, (some 26), none, .pick (.t 21) (.c (.bool true)) (.t 25), []⟩]) (.ite (.t 26) (.exit 1) .skip)) (.seq (.ops [⟨0, (some 27), none, .fad 0 (.t 8), []⟩, ⟨1, (some 28), none, .ld (.t 27), []⟩, ⟨2, (some 29), none, .bin .leq (.t 28) (.c (.int .i64 4)), []⟩, ⟨3, (some 30), none, .mov (.t 29), []⟩, ⟨4, (some 31), (some (30, true)), .ldn 5 (.t 8), []⟩, ⟨5, (some 32), (some (30, true)), .call (.c (.func (.func 38) #[] #[])) [.t 31], []⟩, ⟨6, (some 33), (some (30, true)), .un .not (.t 32), []⟩, ⟨7, (some 34), none, .pick (.t 30) (.t 33) (.c (.bool false)), []⟩, ⟨8, (some 35), none, .mov (.t 34), []⟩, ⟨9, (some 36), (some (35, false)), .fad 0 (.t 8), []⟩, ⟨10, (some 37), (some (35, false)), .ld (.t 36), []⟩, ⟨11, (some 38), (some (35, false)), .bin .gtr (.t 37) (.c (.int .i64 4)), []⟩, ⟨12, (some 39), (some (35, false)), .mov (.t 38), []⟩, ⟨13, (some 40), (some (39, true)), .ldn 5 (.t 8), []⟩, ⟨14, (some 41), (some (39, true)), .call (.c (.func (.func 39) #[] #[])) [.t 40], []⟩, ⟨15, (some 42), (some (39, true)), .un .not (.t 41), []⟩, ⟨16, (some 43), (some (35, false)), .pick (.t 39) (.t 42) (.c (.bool false)), []⟩, ⟨17, (some 44), none, .pick (.t 35) (.c (.bool true)) (.t 43), []⟩]) (.ite (.t 44) (.seq (.ops [⟨0, (some 6), none, .mov (.c (.bool false)), []⟩]) .ret) .skip))))) (.ops [⟨0, (some 45), none, .bin .add (.t 13) (.c (.int .i64 1)), []⟩, ⟨1, (some 13), none, .mov (.t 45), []⟩]))))))) (.seq (.ops [⟨0, (some 6), none, .mov (.c (.bool true)), []⟩]) .ret)))
attribute [irreducible] c_culletlaw13_all
theorem run_culletlaw13_all {args : List Value} {w : World} {K : Value → World → Prop} (hn : args.length ≤ 46) (h : WP Try.prog c_culletlaw13_all (endQ [.t 6] K) (initT args) w) : CallV Try.prog 30 args w K :=
  call_of follows Try.func30 (by kernel_rfl) (by kernel_rfl) hn h
end Go.Proofs.Ytcnabolainmaeaa.Fw
namespace Go.Proofs.Ytcnabolainmaeaa.Fw
open Go Go.Fw
theorem row5_0 {w : World} {b : Nat} {a0 a1 a2 a3 a4 : Value} (h : Row w b [a0, a1, a2, a3, a4]) (P : Program) (d : Option Nat) (l : List D) (Q : T → World → Prop) (t : T) : XW P (.ld (.c (.pointer (some ⟨b, 0, none⟩)))) d l Q t w = W P Q l (put t d a0) w := h.Xld (o := 0) (by simp) P d l Q t
theorem row5_4 {w : World} {b : Nat} {a0 a1 a2 a3 a4 : Value} (h : Row w b [a0, a1, a2, a3, a4]) (P : Program) (d : Option Nat) (l : List D) (Q : T → World → Prop) (t : T) : XW P (.ld (.c (.pointer (some ⟨b, 4, none⟩)))) d l Q t w = W P Q l (put t d a4) w := h.Xld (o := 4) (by simp) P d l Q t
/-- One op's cells. -/
def OpQ (w : World) (vs : List Value) (k : Int) : Prop := ∃ (i j : Int) (x : El 16) (d : Value) (l : List (El 16)), vs = [.int .i64 k, .int .i64 i, .int .i64 j, .int .u16 (x.v.toNat : Int), d] ∧ Sl w d l ∧ l.length ≤ 70368744175616
theorem OpQ.up {w w' : World} {vs : List Value} {k : Int} (h : OpQ w vs k) (hB : RowKit.Below w.heap.size w w') : OpQ w' vs k := by
  obtain ⟨i, j, x, d, l, e, hs, hl⟩ := h
  exact ⟨i, j, x, d, l, e, hs.up hB, hl⟩
theorem opq_of {w : World} {vs : List Value} (h : vs.length = 5 ∧ RF 1 (RI .i64) (RF 1 (RI .i64) (RF 1 (RI .i64) (RF 1 (RC (El 16) fun _ _ => True) (RF 1 (RS (El 16) 2 fun _ _ => True) RZ)))) w vs) : ∃ k, OpQ w vs k := by
  obtain ⟨hl, h⟩ := h
  obtain ⟨u0, c0, rfl, y0, h⟩ := RF.split h RI.one
  obtain ⟨u1, c1, rfl, y1, h⟩ := RF.split h RI.one
  obtain ⟨u2, c2, rfl, y2, h⟩ := RF.split h RI.one
  obtain ⟨u3, c3, rfl, y3, h⟩ := RF.split h RC.one
  obtain ⟨u4, c4, rfl, y4, h⟩ := RF.split h RS.one
  obtain rfl : c4 = [] := List.eq_nil_of_length_eq_zero (by simpa using hl)
  obtain ⟨k, e0, -⟩ := y0
  obtain ⟨i, e1, -⟩ := y1
  obtain ⟨j, e2, -⟩ := y2
  obtain ⟨x, e3, -⟩ := y3
  obtain ⟨d, l, e4, hs, hb, -⟩ := y4
  simp only [List.cons.injEq, and_true] at e0 e1 e2 e3 e4
  subst e0 e1 e2 e3 e4
  exact ⟨k, i, j, x, _, l, rfl, hs, by omega⟩
theorem culletlaw13_all_spec (w : World) (s : Value) (rows : List (List Value)) (lo hi : Int) (h : Slw 5 w s rows) (hb : rows.length ≤ 70368744175616) (hq : ∀ vs ∈ rows, ∃ k, OpQ w vs k)
    (hv : ∀ w vs k, OpQ w vs k → lo ≤ k → k ≤ hi → k ≤ 4 → CallV Try.prog 38 [.agg vs.toArray] w fun v w' => v = .bool true ∧ RowKit.Below w.heap.size w w')
    (hl : ∀ w vs k, OpQ w vs k → lo ≤ k → k ≤ hi → 4 < k → CallV Try.prog 39 [.agg vs.toArray] w fun v w' => v = .bool true ∧ RowKit.Below w.heap.size w w') :
    CallV Try.prog 30 [s, .int .i64 lo, .int .i64 hi] w fun v w' => v = .bool true ∧ RowKit.Below w.heap.size w w' := by
  refine run_culletlaw13_all (by simp) ?_
  simp only [c_culletlaw13_all, WS, List.getElem_cons_zero, List.getElem_cons_succ, Option.isNone_some, Option.isNone_none, List.getD_cons_zero, List.getD_cons_succ, I.at, atL, atO, atP, evp, evs, retV, ↓reduceIte, Nat.reduceEqDiff, reduceCtorEq]
  refine X_call0 ((culletlaw13_awake_spec w).mono ?_)
  rintro _ w1 ⟨rfl, hB⟩
  have B := hB
  clear hB
  simp (maxSteps := 1000000) (disch := omega) only [WS, List.getElem_cons_zero, List.getElem_cons_succ, Option.isNone_some, Option.isNone_none, List.getD_cons_zero, List.getD_cons_succ, I.at, atL, atO, atP, evp, evs, retV, ↓reduceIte, Nat.reduceEqDiff, reduceCtorEq, AS, h.Xlen]
  refine loop_of (fun t w' => t 1 = .int .i64 lo ∧ t 2 = .int .i64 hi ∧ t 11 = s ∧ t 12 = .int .i64 (rows.length : Int) ∧ RowKit.Below w.heap.size w w' ∧ ∃ n : Nat, t 13 = .int .i64 (n : Int) ∧ n ≤ rows.length) (fun t _ => rows.length - (toI (t 13)).toNat) ⟨by simp only [WS, List.getElem_cons_zero, List.getElem_cons_succ, Option.isNone_some, Option.isNone_none, List.getD_cons_zero, List.getD_cons_succ, I.at, atL, atO, atP, evp, evs, retV, ↓reduceIte, Nat.reduceEqDiff, reduceCtorEq], by simp only [WS, List.getElem_cons_zero, List.getElem_cons_succ, Option.isNone_some, Option.isNone_none, List.getD_cons_zero, List.getD_cons_succ, I.at, atL, atO, atP, evp, evs, retV, ↓reduceIte, Nat.reduceEqDiff, reduceCtorEq], by simp only [WS, List.getElem_cons_zero, List.getElem_cons_succ, Option.isNone_some, Option.isNone_none, List.getD_cons_zero, List.getD_cons_succ, I.at, atL, atO, atP, evp, evs, retV, ↓reduceIte, Nat.reduceEqDiff, reduceCtorEq], by simp only [WS, List.getElem_cons_zero, List.getElem_cons_succ, Option.isNone_some, Option.isNone_none, List.getD_cons_zero, List.getD_cons_succ, I.at, atL, atO, atP, evp, evs, retV, ↓reduceIte, Nat.reduceEqDiff, reduceCtorEq], B, 0, rfl, by omega⟩ ?_
  clear B
  rintro t w2 ⟨t1, t2, t11, t12, B, n, t13, hn⟩
  by_cases hlt : n < rows.length
  · have hw := h.up B
    obtain ⟨k, hop⟩ := hq _ (List.getElem_mem hlt)
    have hop := hop.up B
    have hl5 := h.ln _ (List.getElem_mem hlt)
    simp (maxSteps := 1000000) (disch := omega) only [WS, List.getElem_cons_zero, List.getElem_cons_succ, Option.isNone_some, Option.isNone_none, List.getD_cons_zero, List.getD_cons_succ, I.at, atL, atO, atP, evp, evs, retV, ↓reduceIte, Nat.reduceEqDiff, reduceCtorEq, AS, t1, t2, t11, t12, t13, hw.Xix hlt, hw.Xldn hlt]
    generalize rows[n] = vs at hop hl5
    obtain ⟨i, j, x, d, l, rfl, hd, hdl⟩ := hop
    refine X_alloc fun b w3 hr hb hB => ?_
    simp (maxSteps := 1000000) (disch := omega) only [WS, List.getElem_cons_zero, List.getElem_cons_succ, Option.isNone_some, Option.isNone_none, List.getD_cons_zero, List.getD_cons_succ, I.at, atL, atO, atP, evp, evs, retV, ↓reduceIte, Nat.reduceEqDiff, reduceCtorEq, AS, t1, t2, t11, t12, t13]
    have hsc : ∀ u ∈ [Value.int .i64 k, .int .i64 i, .int .i64 j, .int .u16 (x.v.toNat : Int), d], scal u = true := by
      obtain ⟨a, cap, rfl, -⟩ := hd.sh
      intro u hu
      simp only [List.mem_cons, List.not_mem_nil, or_false] at hu
      rcases hu with rfl | rfl | rfl | rfl | rfl <;> rfl
    refine Row.Xstn hr hl5 hsc (by simp) fun w4 hr hg => ?_
    have B := (B.trans (hB.mono B.size)).grown hg (Nat.le_trans B.size hB.size) fun c hc => by cases hc; exact Nat.le_trans B.size hb
    have hd : Sl w4 d l := (hd.up hB).grown hg (by
      by_cases hl0 : l = []
      · exact Or.inr hl0
      · obtain ⟨c, hc, hclt⟩ := hd.blk_lt hl0
        left
        rw [hc]
        intro e
        cases e
        omega)
    have hop : OpQ w4 _ k := ⟨i, j, x, d, l, rfl, hd, hdl⟩
    clear hg hB hb
    by_cases h1 : k < lo
    · simp (maxSteps := 1000000) (disch := omega) only [WS, List.getElem_cons_zero, List.getElem_cons_succ, Option.isNone_some, Option.isNone_none, List.getD_cons_zero, List.getD_cons_succ, I.at, atL, atO, atP, evp, evs, retV, ↓reduceIte, Nat.reduceEqDiff, reduceCtorEq, AS, t1, t2, t11, t12, t13, row5_0 hr]
      exact ⟨⟨B, n + 1, rfl, by omega⟩, by omega⟩
    by_cases h2 : hi < k
    · simp (maxSteps := 1000000) (disch := omega) only [WS, List.getElem_cons_zero, List.getElem_cons_succ, Option.isNone_some, Option.isNone_none, List.getD_cons_zero, List.getD_cons_succ, I.at, atL, atO, atP, evp, evs, retV, ↓reduceIte, Nat.reduceEqDiff, reduceCtorEq, AS, t1, t2, t11, t12, t13, row5_0 hr]
      exact ⟨⟨B, n + 1, rfl, by omega⟩, by omega⟩
    by_cases h4 : k ≤ 4
    · simp (maxSteps := 1000000) (disch := omega) only [WS, List.getElem_cons_zero, List.getElem_cons_succ, Option.isNone_some, Option.isNone_none, List.getD_cons_zero, List.getD_cons_succ, I.at, atL, atO, atP, evp, evs, retV, ↓reduceIte, Nat.reduceEqDiff, reduceCtorEq, AS, t1, t2, t11, t12, t13, row5_0 hr, hr.Xldn hl5]
      refine X_call0 ((hv w4 _ k hop (by omega) (by omega) h4).mono ?_)
      rintro _ w5 ⟨rfl, hB⟩
      have hr := hr.up hB
      have B := B.trans (hB.mono B.size)
      clear hB
      simp (maxSteps := 1000000) (disch := omega) only [WS, List.getElem_cons_zero, List.getElem_cons_succ, Option.isNone_some, Option.isNone_none, List.getD_cons_zero, List.getD_cons_succ, I.at, atL, atO, atP, evp, evs, retV, ↓reduceIte, Nat.reduceEqDiff, reduceCtorEq, AS, t1, t2, t11, t12, t13, row5_0 hr]
      exact ⟨⟨B, n + 1, rfl, by omega⟩, by omega⟩
    · simp (maxSteps := 1000000) (disch := omega) only [WS, List.getElem_cons_zero, List.getElem_cons_succ, Option.isNone_some, Option.isNone_none, List.getD_cons_zero, List.getD_cons_succ, I.at, atL, atO, atP, evp, evs, retV, ↓reduceIte, Nat.reduceEqDiff, reduceCtorEq, AS, t1, t2, t11, t12, t13, row5_0 hr, hr.Xldn hl5]
      refine X_call0 ((hl w4 _ k hop (by omega) (by omega) (by omega)).mono ?_)
      rintro _ w5 ⟨rfl, hB⟩
      have B := B.trans (hB.mono B.size)
      clear hB
      simp (maxSteps := 1000000) (disch := omega) only [WS, List.getElem_cons_zero, List.getElem_cons_succ, Option.isNone_some, Option.isNone_none, List.getD_cons_zero, List.getD_cons_succ, I.at, atL, atO, atP, evp, evs, retV, ↓reduceIte, Nat.reduceEqDiff, reduceCtorEq, AS, t1, t2, t11, t12, t13]
      exact ⟨⟨B, n + 1, rfl, by omega⟩, by omega⟩
  · obtain rfl : n = rows.length := by omega
    simp (maxSteps := 1000000) (disch := omega) only [WS, List.getElem_cons_zero, List.getElem_cons_succ, Option.isNone_some, Option.isNone_none, List.getD_cons_zero, List.getD_cons_succ, I.at, atL, atO, atP, evp, evs, retV, ↓reduceIte, Nat.reduceEqDiff, reduceCtorEq, AS, t1, t2, t11, t12, t13]
    exact B
end Go.Proofs.Ytcnabolainmaeaa.Fw
