import Derived.Test.YtcnabolainmaeaaProg
import Derived.Test.YtcnabolainmaeaaFwTV
import Derived.Test.YtcnabolainmaeaaSS13nV
import Derived.Test.YtcnabolainmaeaaSS13fV
import Derived.Test.YtcnabolainmaeaaFwWV
set_option linter.all false
set_option linter.unusedVariables false
set_option linter.unusedSimpArgs false
set_option maxRecDepth 100000
set_option maxHeartbeats 1000000
namespace Go.Proofs.Ytcnabolainmaeaa.Fw
open Go Go.Fw Go.Proofs
attribute [local irreducible] stepI
def c_culletlaw13_LchValues : C := .seq (.ops [⟨0, (some 2), none, .mov (.c (.bool false)), []⟩]) (.seq (.ops [⟨0, (some 3), none, .mov (.t 0), []⟩, ⟨1, (some 4), none, .call (.c (.func (.func 30) #[] #[])) [.t 3, .c (.int .i64 1), .c (.int .i64 4)], []⟩, ⟨2, (some 2), none, .mov (.t 4), []⟩]) .ret)
attribute [irreducible] c_culletlaw13_LchValues
theorem run_culletlaw13_LchValues {args : List Value} {w : World} {K : Value → World → Prop} (hn : args.length ≤ 5) (h : WP Try.prog c_culletlaw13_LchValues (endQ [.t 2] K) (initT args) w) : CallV Try.prog 9 args w K :=
  call_of follows Try.func9 (by kernel_rfl) (by kernel_rfl) hn h
def c_culletlaw13_all : C := .seq (.ops [⟨0, (some 6), none, .mov (.c (.bool false)), []⟩]) (.seq (.seq (.ops [⟨0, (some 9), none, .call (.c (.func (.func 12) #[] #[])) [], []⟩, ⟨1, (some 10), none, .un .not (.t 9), []⟩]) (.ite (.t 10) (.seq (.ops [⟨0, (some 6), none, .mov (.c (.bool false)), []⟩]) .ret) .skip)) (.seq (.seq (.ops [⟨0, (some 11), none, .mov (.t 0), []⟩, ⟨1, (some 12), none, .len (.t 11), []⟩, ⟨2, (some 13), none, .mov (.c (.int .i64 0)), []⟩]) (.block 0 (.loop (.seq (.ops [⟨0, (some 14), none, .bin .lss (.t 13) (.t 12), []⟩]) (.seq (.ite (.t 14) .skip (.exit 0)) (.seq (.block 1 (.seq (.ops [⟨0, (some 15), none, .ixs 5 (.t 11) (.t 13), []⟩, ⟨1, (some 16), none, .ldn 5 (.t 15), []⟩, ⟨2, (some 8), none, .alloc 63 [.int .i64 0, .int .i64 0, .int .i64 0, .int .u16 0, .slice none 0 0], []⟩, ⟨3, none, none, .stn 5 (.t 8) (.t 16), []⟩]) (.seq (.seq (.ops [⟨0, (some 17), none, .fad 0 (.t 8), []⟩, ⟨1, (some 18), none, .ld (.t 17), []⟩, ⟨2, (some 19), none, .mov (.t 1), []⟩, ⟨3, (some 20), none, .bin .lss (.t 18) (.t 19), []⟩, ⟨4, (some 21), none, .mov (.t 20), []⟩, ⟨5, (some 22), (some (21, false)), .fad 0 (.t 8), []⟩, ⟨6, (some 23), (some (21, false)), .ld (.t 22), []⟩, ⟨7, (some 24), (some (21, false)), .mov (.t 2), []⟩, ⟨8, (some 25), (some (21, false)), .bin .gtr (.t 23) (.t 24), []⟩, ⟨9, (some 26), none, .pick (.t 21) (.c (.bool true)) (.t 25), []⟩]) (.ite (.t 26) (.exit 1) .skip)) (.seq (.ops [⟨0, (some 27), none, .fad 0 (.t 8), []⟩, ⟨1, (some 28), none, .ld (.t 27), []⟩, ⟨2, (some 29), none, .bin .leq (.t 28) (.c (.int .i64 4)), []⟩, ⟨3, (some 30), none, .mov (.t 29), []⟩, ⟨4, (some 31), (some (30, true)), .ldn 5 (.t 8), []⟩, ⟨5, (some 32), (some (30, true)), .call (.c (.func (.func 38) #[] #[])) [.t 31], []⟩, ⟨6, (some 33), (some (30, true)), .un .not (.t 32), []⟩, ⟨7, (some 34), none, .pick (.t 30) (.t 33) (.c (.bool false)), []⟩, ⟨8, (some 35), none, .mov (.t 34), []⟩, ⟨9, (some 36), (some (35, false)), .fad 0 (.t 8), []⟩, ⟨10, (some 37), (some (35, false)), .ld (.t 36), []⟩, ⟨11, (some 38), (some (35, false)), .bin .gtr (.t 37) (.c (.int .i64 4)), []⟩, ⟨12, (some 39), (some (35, false)), .mov (.t 38), []⟩, ⟨13, (some 40), (some (39, true)), .ldn 5 (.t 8), []⟩, ⟨14, (some 41), (some (39, true)), .call (.c (.func (.func 39) #[] #[])) [.t 40], []⟩, ⟨15, (some 42), (some (39, true)), .un .not (.t 41), []⟩, ⟨16, (some 43), (some (35, false)), .pick (.t 39) (.t 42) (.c (.bool false)), []⟩, ⟨17, (some 44), none, .pick (.t 35) (.c (.bool true)) (.t 43), []⟩]) (.ite (.t 44) (.seq (.ops [⟨0, (some 6), none, .mov (.c (.bool false)), []⟩]) .ret) .skip))))) (.ops [⟨0, (some 45), none, .bin .add (.t 13) (.c (.int .i64 1)), []⟩, ⟨1, (some 13), none, .mov (.t 45), []⟩]))))))) (.seq (.ops [⟨0, (some 6), none, .mov (.c (.bool true)), []⟩]) .ret)))
attribute [irreducible] c_culletlaw13_all
theorem run_culletlaw13_all {args : List Value} {w : World} {K : Value → World → Prop} (hn : args.length ≤ 46) (h : WP Try.prog c_culletlaw13_all (endQ [.t 6] K) (initT args) w) : CallV Try.prog 30 args w K :=
  call_of follows Try.func30 (by kernel_rfl) (by kernel_rfl) hn h
def c_culletlaw13_values : C := .seq (.ops [⟨0, (some 1), none, .box 63 (.t 0), []⟩, ⟨1, (some 2), none, .mov (.c (.bool false)), []⟩]) (.seq (.seq (.ops [⟨0, (some 19), none, .fad 0 (.t 1), []⟩, ⟨1, (some 20), none, .ld (.t 19), []⟩]) (.block 0 (.seq (.ops [⟨0, (some 22), none, .bin .eql (.t 20) (.c (.int .i64 1)), []⟩, ⟨1, (some 21), none, .mov (.t 22), []⟩]) (.ite (.t 21) (.seq (.ops [⟨0, (some 24), none, .fad 1 (.t 1), []⟩, ⟨1, (some 25), none, .ld (.t 24), []⟩, ⟨2, (some 26), none, .fad 3 (.t 1), []⟩, ⟨3, (some 27), none, .ld (.t 26), []⟩, ⟨4, (some 28), none, .call (.c (.func (.func 13) #[] #[])) [.t 25, .t 27], []⟩, ⟨5, (some 23), none, .mov (.t 28), []⟩, ⟨6, (some 29), none, .ext (.t 23) 0, []⟩, ⟨7, (some 30), none, .ext (.t 23) 1, []⟩, ⟨8, (some 3), none, .mov (.t 29), []⟩, ⟨9, (some 4), none, .mov (.t 30), []⟩]) (.seq (.ops [⟨0, (some 32), none, .fad 1 (.t 1), []⟩, ⟨1, (some 33), none, .ld (.t 32), []⟩, ⟨2, (some 34), none, .fad 3 (.t 1), []⟩, ⟨3, (some 35), none, .ld (.t 34), []⟩, ⟨4, (some 36), none, .call (.c (.func (.func 46) #[] #[])) [.t 33, .t 35], []⟩, ⟨5, (some 31), none, .mov (.t 36), []⟩, ⟨6, (some 37), none, .ext (.t 31) 0, []⟩, ⟨7, (some 38), none, .ext (.t 31) 1, []⟩, ⟨8, (some 5), none, .mov (.t 37), []⟩, ⟨9, (some 6), none, .mov (.t 38), []⟩]) (.seq (.ops [⟨0, (some 39), none, .mov (.t 3), []⟩, ⟨1, (some 40), none, .mov (.t 5), []⟩, ⟨2, (some 41), none, .bin .eql (.t 39) (.t 40), []⟩, ⟨3, (some 42), none, .mov (.t 41), []⟩, ⟨4, (some 43), (some (42, true)), .mov (.t 4), []⟩, ⟨5, (some 44), (some (42, true)), .mov (.t 6), []⟩, ⟨6, (some 45), (some (42, true)), .bin .eql (.t 43) (.t 44), []⟩, ⟨7, (some 46), none, .pick (.t 42) (.t 45) (.c (.bool false)), []⟩, ⟨8, (some 2), none, .mov (.t 46), []⟩]) .ret))) (.seq (.ops [⟨0, (some 48), none, .bin .eql (.t 20) (.c (.int .i64 2)), []⟩, ⟨1, (some 47), none, .mov (.t 48), []⟩]) (.ite (.t 47) (.seq (.ops [⟨0, (some 50), none, .fad 1 (.t 1), []⟩, ⟨1, (some 51), none, .ld (.t 50), []⟩, ⟨2, (some 52), none, .call (.c (.func (.func 14) #[] #[])) [.t 51], []⟩, ⟨3, (some 49), none, .mov (.t 52), []⟩, ⟨4, (some 53), none, .ext (.t 49) 0, []⟩, ⟨5, (some 54), none, .ext (.t 49) 1, []⟩, ⟨6, (some 7), none, .mov (.t 53), []⟩, ⟨7, (some 8), none, .mov (.t 54), []⟩]) (.seq (.ops [⟨0, (some 56), none, .fad 1 (.t 1), []⟩, ⟨1, (some 57), none, .ld (.t 56), []⟩, ⟨2, (some 58), none, .call (.c (.func (.func 47) #[] #[])) [.t 57], []⟩, ⟨3, (some 55), none, .mov (.t 58), []⟩, ⟨4, (some 59), none, .ext (.t 55) 0, []⟩, ⟨5, (some 60), none, .ext (.t 55) 1, []⟩, ⟨6, (some 9), none, .mov (.t 59), []⟩, ⟨7, (some 10), none, .mov (.t 60), []⟩]) (.seq (.ops [⟨0, (some 61), none, .mov (.t 7), []⟩, ⟨1, (some 62), none, .mov (.t 9), []⟩, ⟨2, (some 63), none, .call (.c (.func (.func 22) #[] #[])) [.t 61, .t 62], []⟩, ⟨3, (some 64), none, .mov (.t 63), []⟩, ⟨4, (some 65), (some (64, true)), .mov (.t 8), []⟩, ⟨5, (some 66), (some (64, true)), .mov (.t 10), []⟩, ⟨6, (some 67), (some (64, true)), .bin .eql (.t 65) (.t 66), []⟩, ⟨7, (some 68), none, .pick (.t 64) (.t 67) (.c (.bool false)), []⟩, ⟨8, (some 2), none, .mov (.t 68), []⟩]) .ret))) (.seq (.ops [⟨0, (some 70), none, .bin .eql (.t 20) (.c (.int .i64 3)), []⟩, ⟨1, (some 69), none, .mov (.t 70), []⟩]) (.ite (.t 69) (.seq (.ops [⟨0, (some 72), none, .fad 1 (.t 1), []⟩, ⟨1, (some 73), none, .ld (.t 72), []⟩, ⟨2, (some 74), none, .fad 2 (.t 1), []⟩, ⟨3, (some 75), none, .ld (.t 74), []⟩, ⟨4, (some 76), none, .call (.c (.func (.func 16) #[] #[])) [.t 73, .t 75], []⟩, ⟨5, (some 71), none, .mov (.t 76), []⟩, ⟨6, (some 77), none, .ext (.t 71) 0, []⟩, ⟨7, (some 78), none, .ext (.t 71) 1, []⟩, ⟨8, (some 11), none, .mov (.t 77), []⟩, ⟨9, (some 12), none, .mov (.t 78), []⟩]) (.seq (.ops [⟨0, (some 80), none, .fad 1 (.t 1), []⟩, ⟨1, (some 81), none, .ld (.t 80), []⟩, ⟨2, (some 82), none, .fad 2 (.t 1), []⟩, ⟨3, (some 83), none, .ld (.t 82), []⟩, ⟨4, (some 84), none, .call (.c (.func (.func 48) #[] #[])) [.t 81, .t 83], []⟩, ⟨5, (some 79), none, .mov (.t 84), []⟩, ⟨6, (some 85), none, .ext (.t 79) 0, []⟩, ⟨7, (some 86), none, .ext (.t 79) 1, []⟩, ⟨8, (some 13), none, .mov (.t 85), []⟩, ⟨9, (some 14), none, .mov (.t 86), []⟩]) (.seq (.ops [⟨0, (some 87), none, .mov (.t 11), []⟩, ⟨1, (some 88), none, .mov (.t 13), []⟩, ⟨2, (some 89), none, .bin .eql (.t 87) (.t 88), []⟩, ⟨3, (some 90), none, .mov (.t 89), []⟩, ⟨4, (some 91), (some (90, true)), .mov (.t 12), []⟩, ⟨5, (some 92), (some (90, true)), .mov (.t 14), []⟩, ⟨6, (some 93), (some (90, true)), .bin .eql (.t 91) (.t 92), []⟩, ⟨7, (some 94), none, .pick (.t 90) (.t 93) (.c (.bool false)), []⟩, ⟨8, (some 2), none, .mov (.t 94), []⟩]) .ret))) .skip)))))))) (.seq (.ops [⟨0, (some 96), none, .fad 2 (.t 1), []⟩, ⟨1, (some 97), none, .ld (.t 96), []⟩, ⟨2, (some 98), none, .fad 3 (.t 1), []⟩, ⟨3, (some 99), none, .ld (.t 98), []⟩, ⟨4, (some 100), none, .call (.c (.func (.func 49) #[] #[])) [.t 97, .t 99], []⟩, ⟨5, (some 95), none, .mov (.t 100), []⟩, ⟨6, (some 101), none, .ext (.t 95) 0, []⟩, ⟨7, (some 102), none, .ext (.t 95) 1, []⟩, ⟨8, (some 15), none, .mov (.t 101), []⟩, ⟨9, (some 16), none, .mov (.t 102), []⟩]) (.seq (.ops [⟨0, (some 104), none, .fad 2 (.t 1), []⟩, ⟨1, (some 105), none, .ld (.t 104), []⟩, ⟨2, (some 106), none, .fad 3 (.t 1), []⟩, ⟨3, (some 107), none, .ld (.t 106), []⟩, ⟨4, (some 108), none, .call (.c (.func (.func 50) #[] #[])) [.t 105, .t 107], []⟩, ⟨5, (some 103), none, .mov (.t 108), []⟩, ⟨6, (some 109), none, .ext (.t 103) 0, []⟩, ⟨7, (some 110), none, .ext (.t 103) 1, []⟩, ⟨8, (some 17), none, .mov (.t 109), []⟩, ⟨9, (some 18), none, .mov (.t 110), []⟩]) (.seq (.ops [⟨0, (some 111), none, .mov (.t 15), []⟩, ⟨1, (some 112), none, .mov (.t 17), []⟩, ⟨2, (some 113), none, .bin .eql (.t 111) (.t 112), []⟩, ⟨3, (some 114), none, .mov (.t 113), []⟩, ⟨4, (some 115), (some (114, true)), .mov (.t 16), []⟩, ⟨5, (some 116), (some (114, true)), .mov (.t 18), []⟩, ⟨6, (some 117), (some (114, true)), .bin .eql (.t 115) (.t 116), []⟩, ⟨7, (some 118), none, .pick (.t 114) (.t 117) (.c (.bool false)), []⟩, ⟨8, (some 2), none, .mov (.t 118), []⟩]) .ret))))
attribute [irreducible] c_culletlaw13_values
theorem run_culletlaw13_values {args : List Value} {w : World} {K : Value → World → Prop} (hn : args.length ≤ 119) (h : WP Try.prog c_culletlaw13_values (endQ [.t 2] K) (initT args) w) : CallV Try.prog 38 args w K :=
  call_of follows Try.func38 (by kernel_rfl) (by kernel_rfl) hn h
end Go.Proofs.Ytcnabolainmaeaa.Fw
namespace Go.Proofs.Ytcnabolainmaeaa.Fw
open Go Go.Fw
theorem row5_0 {w : World} {b : Nat} {a0 a1 a2 a3 a4 : Value} (h : Row w b [a0, a1, a2, a3, a4]) (P : Program) (d : Option Nat) (l : List D) (Q : T → World → Prop) (t : T) : XW P (.ld (.c (.pointer (some ⟨b, 0, none⟩)))) d l Q t w = W P Q l (put t d a0) w := h.Xld (o := 0) (by simp) P d l Q t
theorem row5_1 {w : World} {b : Nat} {a0 a1 a2 a3 a4 : Value} (h : Row w b [a0, a1, a2, a3, a4]) (P : Program) (d : Option Nat) (l : List D) (Q : T → World → Prop) (t : T) : XW P (.ld (.c (.pointer (some ⟨b, 1, none⟩)))) d l Q t w = W P Q l (put t d a1) w := h.Xld (o := 1) (by simp) P d l Q t
theorem row5_2 {w : World} {b : Nat} {a0 a1 a2 a3 a4 : Value} (h : Row w b [a0, a1, a2, a3, a4]) (P : Program) (d : Option Nat) (l : List D) (Q : T → World → Prop) (t : T) : XW P (.ld (.c (.pointer (some ⟨b, 2, none⟩)))) d l Q t w = W P Q l (put t d a2) w := h.Xld (o := 2) (by simp) P d l Q t
theorem row5_3 {w : World} {b : Nat} {a0 a1 a2 a3 a4 : Value} (h : Row w b [a0, a1, a2, a3, a4]) (P : Program) (d : Option Nat) (l : List D) (Q : T → World → Prop) (t : T) : XW P (.ld (.c (.pointer (some ⟨b, 3, none⟩)))) d l Q t w = W P Q l (put t d a3) w := h.Xld (o := 3) (by simp) P d l Q t
/-- One op's cells. -/
def OpQ (w : World) (vs : List Value) (k : Int) : Prop := ∃ (i j : Int) (x : El 16) (d : Value) (l : List (El 16)), vs = [.int .i64 k, .int .i64 i, .int .i64 j, .int .u16 (x.v.toNat : Int), d] ∧ Sl w d l ∧ l.length ≤ 70368744175616
theorem OpQ.up {w w' : World} {vs : List Value} {k : Int} (h : OpQ w vs k) (hB : RowKit.Below w.heap.size w w') : OpQ w' vs k := by
  obtain ⟨i, j, x, d, l, e, hs, hl⟩ := h
  exact ⟨i, j, x, d, l, e, hs.up hB, hl⟩
theorem opq_of {w : World} {vs : List Value} (h : vs.length = 5 ∧ RF 1 (RI .i64) (RF 1 (RI .i64) (RF 1 (RI .i64) (RF 1 (RC (El 16) fun _ _ => True) (RF 1 (RS (El 16) 2 fun _ _ => True) RZ)))) w vs) : ∃ k, OpQ w vs k := by
  obtain ⟨hl, h⟩ := h
  obtain ⟨u0, c0, rfl, y0, h⟩ := RF.split h RI.one
  obtain ⟨u1, c1, rfl, y1, h⟩ := RF.split h RI.one
  obtain ⟨u2, c2, rfl, y2, h⟩ := RF.split h RI.one
  obtain ⟨u3, c3, rfl, y3, h⟩ := RF.split h RC.one
  obtain ⟨u4, c4, rfl, y4, h⟩ := RF.split h RS.one
  obtain rfl : c4 = [] := List.eq_nil_of_length_eq_zero (by simpa using hl)
  obtain ⟨k, e0, -⟩ := y0
  obtain ⟨i, e1, -⟩ := y1
  obtain ⟨j, e2, -⟩ := y2
  obtain ⟨x, e3, -⟩ := y3
  obtain ⟨d, l, e4, hs, hb, -⟩ := y4
  simp only [List.cons.injEq, and_true] at e0 e1 e2 e3 e4
  subst e0 e1 e2 e3 e4
  exact ⟨k, i, j, x, _, l, rfl, hs, by omega⟩
theorem culletlaw13_values_spec (w : World) (vs : List Value) (k : Int) (h : OpQ w vs k) (hk : 1 ≤ k ∧ k ≤ 4) :
    CallV Try.prog 38 [.agg vs.toArray] w fun v w' => v = .bool true ∧ RowKit.Below w.heap.size w w' := by
  obtain ⟨i, j, x, d, l, rfl, hd, hl⟩ := h
  refine run_culletlaw13_values (by simp) ?_
  simp only [c_culletlaw13_values, WS, List.getElem_cons_zero, List.getElem_cons_succ, Option.isNone_some, Option.isNone_none, List.getD_cons_zero, List.getD_cons_succ, I.at, atL, atO, atP, evp, evs, retV, ↓reduceIte, Nat.reduceEqDiff, reduceCtorEq]
  refine X_box fun b w1 hr hb hB => ?_
  have hr : Row w1 b [.int .i64 k, .int .i64 i, .int .i64 j, .int .u16 (x.v.toNat : Int), d] := hr
  have B := hB
  clear hB
  have hk' : k = 1 ∨ k = 2 ∨ k = 3 ∨ k = 4 := by omega
  have dt : ∀ e : Int, decide (e = e) = true := fun e => decide_eq_true rfl
  rcases hk' with rfl | rfl | rfl | rfl
  · simp (maxSteps := 1000000) (disch := omega) only [WS, List.getElem_cons_zero, List.getElem_cons_succ, Option.isNone_some, Option.isNone_none, List.getD_cons_zero, List.getD_cons_succ, I.at, atL, atO, atP, evp, evs, retV, ↓reduceIte, Nat.reduceEqDiff, reduceCtorEq, AS, row5_0 hr, show decide ((1 : Int) = 1) = true from rfl, row5_1 hr, row5_3 hr]
    refine X_call0 ((lch_Vanish_spec w1 i x).mono ?_)
    rintro _ w2 ⟨rfl, ⟨i0, i1, rfl⟩ | ⟨hbad, rfl⟩⟩
    · simp (maxSteps := 1000000) (disch := omega) only [WS, List.getElem_cons_zero, List.getElem_cons_succ, Option.isNone_some, Option.isNone_none, List.getD_cons_zero, List.getD_cons_succ, I.at, atL, atO, atP, evp, evs, retV, ↓reduceIte, Nat.reduceEqDiff, reduceCtorEq, AS, row5_1 hr, row5_3 hr]
      refine X_call0 ((culletref13_Vanish_spec w2 i x).mono ?_)
      rintro _ w3 ⟨hB, ⟨-, -, rfl⟩ | ⟨hbad, rfl⟩⟩
      · have B := B.trans (hB.mono B.size)
        clear hB
        simp (maxSteps := 1000000) (disch := omega) only [WS, List.getElem_cons_zero, List.getElem_cons_succ, Option.isNone_some, Option.isNone_none, List.getD_cons_zero, List.getD_cons_succ, I.at, atL, atO, atP, evp, evs, retV, ↓reduceIte, Nat.reduceEqDiff, reduceCtorEq, AS, dt]
        exact B
      · exact absurd ⟨i0, i1⟩ hbad
    · simp (maxSteps := 1000000) (disch := omega) only [WS, List.getElem_cons_zero, List.getElem_cons_succ, Option.isNone_some, Option.isNone_none, List.getD_cons_zero, List.getD_cons_succ, I.at, atL, atO, atP, evp, evs, retV, ↓reduceIte, Nat.reduceEqDiff, reduceCtorEq, AS, row5_1 hr, row5_3 hr]
      refine X_call0 ((culletref13_Vanish_spec w2 i x).mono ?_)
      rintro _ w3 ⟨hB, ⟨j0, j1, rfl⟩ | ⟨-, rfl⟩⟩
      · exact absurd ⟨j0, j1⟩ hbad
      · have B := B.trans (hB.mono B.size)
        clear hB
        simp (maxSteps := 1000000) (disch := omega) only [WS, List.getElem_cons_zero, List.getElem_cons_succ, Option.isNone_some, Option.isNone_none, List.getD_cons_zero, List.getD_cons_succ, I.at, atL, atO, atP, evp, evs, retV, ↓reduceIte, Nat.reduceEqDiff, reduceCtorEq, AS, dt]
        exact B
  · simp (maxSteps := 1000000) (disch := omega) only [WS, List.getElem_cons_zero, List.getElem_cons_succ, Option.isNone_some, Option.isNone_none, List.getD_cons_zero, List.getD_cons_succ, I.at, atL, atO, atP, evp, evs, retV, ↓reduceIte, Nat.reduceEqDiff, reduceCtorEq, AS, row5_0 hr, show decide ((2 : Int) = 1) = false from rfl, show decide ((2 : Int) = 2) = true from rfl, row5_1 hr]
    refine X_call0 ((lch_Linear_spec w1 i).mono ?_)
    rintro _ w2 ⟨hB, ⟨i0, i1, s, m, rfl, om, ml, mc⟩ | ⟨hbad, rfl⟩⟩
    · have om := om.sl
      have hr := hr.up hB
      have B := B.trans (hB.mono B.size)
      clear hB
      simp (maxSteps := 1000000) (disch := omega) only [WS, List.getElem_cons_zero, List.getElem_cons_succ, Option.isNone_some, Option.isNone_none, List.getD_cons_zero, List.getD_cons_succ, I.at, atL, atO, atP, evp, evs, retV, ↓reduceIte, Nat.reduceEqDiff, reduceCtorEq, AS, row5_1 hr]
      refine X_call0 ((culletref13_Linear_spec w2 i).mono ?_)
      rintro _ w3 ⟨hB, ⟨-, -, s2, m2, rfl, om2, ml2, mc2⟩ | ⟨hbad, rfl⟩⟩
      · have om2 := om2.sl
        have om := om.up hB
        have B := B.trans (hB.mono B.size)
        clear hB
        have he : m = m2 := co_ext (ml.trans ml2.symm) (Ps.ext fun u => by rw [mc, mc2])
        simp (maxSteps := 1000000) (disch := omega) only [WS, List.getElem_cons_zero, List.getElem_cons_succ, Option.isNone_some, Option.isNone_none, List.getD_cons_zero, List.getD_cons_succ, I.at, atL, atO, atP, evp, evs, retV, ↓reduceIte, Nat.reduceEqDiff, reduceCtorEq, AS]
        refine X_call0 ((culletlaw13_same_spec w3 s s2 m m2 om om2 (by omega) (by omega)).mono ?_)
        rintro _ w4 ⟨rfl, hk⟩
        have hB := hk.1
        have B := B.trans (hB.mono B.size)
        clear hB
        rw [decide_eq_true he]
        simp (maxSteps := 1000000) (disch := omega) only [WS, List.getElem_cons_zero, List.getElem_cons_succ, Option.isNone_some, Option.isNone_none, List.getD_cons_zero, List.getD_cons_succ, I.at, atL, atO, atP, evp, evs, retV, ↓reduceIte, Nat.reduceEqDiff, reduceCtorEq, AS, dt]
        exact B
      · exact absurd ⟨i0, i1⟩ hbad
    · have hr := hr.up hB
      have B := B.trans (hB.mono B.size)
      clear hB
      simp (maxSteps := 1000000) (disch := omega) only [WS, List.getElem_cons_zero, List.getElem_cons_succ, Option.isNone_some, Option.isNone_none, List.getD_cons_zero, List.getD_cons_succ, I.at, atL, atO, atP, evp, evs, retV, ↓reduceIte, Nat.reduceEqDiff, reduceCtorEq, AS, row5_1 hr]
      refine X_call0 ((culletref13_Linear_spec w2 i).mono ?_)
      rintro _ w3 ⟨hB, ⟨j0, j1, -⟩ | ⟨-, rfl⟩⟩
      · exact absurd ⟨j0, j1⟩ hbad
      · have B := B.trans (hB.mono B.size)
        clear hB
        simp (maxSteps := 1000000) (disch := omega) only [WS, List.getElem_cons_zero, List.getElem_cons_succ, Option.isNone_some, Option.isNone_none, List.getD_cons_zero, List.getD_cons_succ, I.at, atL, atO, atP, evp, evs, retV, ↓reduceIte, Nat.reduceEqDiff, reduceCtorEq, AS]
        refine X_call0 ((culletlaw13_same_spec w3 _ _ _ _ (Sl.nil (α := El 16) w3) (Sl.nil (α := El 16) w3) (by simp) (by simp)).mono ?_)
        rintro _ w4 ⟨rfl, hk⟩
        have hB := hk.1
        have B := B.trans (hB.mono B.size)
        clear hB
        rw [decide_eq_true rfl]
        simp (maxSteps := 1000000) (disch := omega) only [WS, List.getElem_cons_zero, List.getElem_cons_succ, Option.isNone_some, Option.isNone_none, List.getD_cons_zero, List.getD_cons_succ, I.at, atL, atO, atP, evp, evs, retV, ↓reduceIte, Nat.reduceEqDiff, reduceCtorEq, AS, dt]
        exact B
  · simp (maxSteps := 1000000) (disch := omega) only [WS, List.getElem_cons_zero, List.getElem_cons_succ, Option.isNone_some, Option.isNone_none, List.getD_cons_zero, List.getD_cons_succ, I.at, atL, atO, atP, evp, evs, retV, ↓reduceIte, Nat.reduceEqDiff, reduceCtorEq, AS, row5_0 hr, show decide ((3 : Int) = 1) = false from rfl, show decide ((3 : Int) = 2) = false from rfl, show decide ((3 : Int) = 3) = true from rfl, row5_1 hr, row5_2 hr]
    refine X_call0 ((lch_Skew_spec w1 i j).mono ?_)
    rintro _ w2 ⟨hB, h1⟩
    have hr := hr.up hB
    have B := B.trans (hB.mono B.size)
    clear hB
    have h2 : ∃ a e : Int, (fun v : Value => (0 ≤ i ∧ i ≤ 16 ∧ 0 ≤ j ∧ j < 65536 ∧ v = .tuple #[.int .u16 ((wel (j.toNat >>> i.toNat)).v.toNat : Int), .int .i64 0]) ∨ (¬ (0 ≤ i ∧ i ≤ 16) ∧ v = .tuple #[.int .u16 0, .int .i64 7]) ∨ (0 ≤ i ∧ i ≤ 16 ∧ ¬ (0 ≤ j ∧ j < 65536) ∧ v = .tuple #[.int .u16 0, .int .i64 31])) = fun v => v = .tuple #[.int .u16 a, .int .i64 e] := by
      by_cases hi : 0 ≤ i ∧ i ≤ 16
      · by_cases hj : 0 ≤ j ∧ j < 65536
        · exact ⟨_, _, funext fun v => propext ⟨fun h => by rcases h with ⟨-, -, -, -, h⟩ | ⟨h, -⟩ | ⟨-, -, h, -⟩; exact h; exact absurd hi h; exact absurd hj h, fun h => Or.inl ⟨hi.1, hi.2, hj.1, hj.2, h⟩⟩⟩
        · exact ⟨_, _, funext fun v => propext ⟨fun h => by rcases h with ⟨-, -, h1, h2, -⟩ | ⟨h, -⟩ | ⟨-, -, -, h⟩; exact absurd ⟨h1, h2⟩ hj; exact absurd hi h; exact h, fun h => Or.inr (Or.inr ⟨hi.1, hi.2, hj, h⟩)⟩⟩
      · exact ⟨_, _, funext fun v => propext ⟨fun h => by rcases h with ⟨h1, h2, -⟩ | ⟨-, h⟩ | ⟨h1, h2, -⟩; exact absurd ⟨h1, h2⟩ hi; exact h; exact absurd ⟨h1, h2⟩ hi, fun h => Or.inr (Or.inl ⟨hi, h⟩)⟩⟩
    obtain ⟨a, e, h2⟩ := h2
    obtain rfl := (congrFun h2 _).mp h1
    simp (maxSteps := 1000000) (disch := omega) only [WS, List.getElem_cons_zero, List.getElem_cons_succ, Option.isNone_some, Option.isNone_none, List.getD_cons_zero, List.getD_cons_succ, I.at, atL, atO, atP, evp, evs, retV, ↓reduceIte, Nat.reduceEqDiff, reduceCtorEq, AS, row5_1 hr, row5_2 hr]
    refine X_call0 ((culletref13_Skew_spec w2 i j).mono ?_)
    rintro _ w3 ⟨hB, h1⟩
    obtain rfl := (congrFun h2 _).mp h1
    have B := B.trans (hB.mono B.size)
    clear hB
    simp (maxSteps := 1000000) (disch := omega) only [WS, List.getElem_cons_zero, List.getElem_cons_succ, Option.isNone_some, Option.isNone_none, List.getD_cons_zero, List.getD_cons_succ, I.at, atL, atO, atP, evp, evs, retV, ↓reduceIte, Nat.reduceEqDiff, reduceCtorEq, AS, dt]
    exact B
  · simp (maxSteps := 1000000) (disch := omega) only [WS, List.getElem_cons_zero, List.getElem_cons_succ, Option.isNone_some, Option.isNone_none, List.getD_cons_zero, List.getD_cons_succ, I.at, atL, atO, atP, evp, evs, retV, ↓reduceIte, Nat.reduceEqDiff, reduceCtorEq, AS, row5_0 hr, show decide ((4 : Int) = 1) = false from rfl, show decide ((4 : Int) = 2) = false from rfl, show decide ((4 : Int) = 3) = false from rfl, row5_2 hr, row5_3 hr]
    refine X_call0 ((lch_Basis_spec w1 j x).mono ?_)
    rintro _ w2 ⟨rfl, ⟨i0, i1, rfl⟩ | ⟨hbad, rfl⟩⟩
    · simp (maxSteps := 1000000) (disch := omega) only [WS, List.getElem_cons_zero, List.getElem_cons_succ, Option.isNone_some, Option.isNone_none, List.getD_cons_zero, List.getD_cons_succ, I.at, atL, atO, atP, evp, evs, retV, ↓reduceIte, Nat.reduceEqDiff, reduceCtorEq, AS, row5_2 hr, row5_3 hr]
      refine X_call0 ((culletref13_Basis_spec w2 j x).mono ?_)
      rintro _ w3 ⟨hB, ⟨-, -, rfl⟩ | ⟨hbad, rfl⟩⟩
      · have B := B.trans (hB.mono B.size)
        clear hB
        simp (maxSteps := 1000000) (disch := omega) only [WS, List.getElem_cons_zero, List.getElem_cons_succ, Option.isNone_some, Option.isNone_none, List.getD_cons_zero, List.getD_cons_succ, I.at, atL, atO, atP, evp, evs, retV, ↓reduceIte, Nat.reduceEqDiff, reduceCtorEq, AS, dt]
        exact B
      · exact absurd ⟨i0, i1⟩ hbad
    · simp (maxSteps := 1000000) (disch := omega) only [WS, List.getElem_cons_zero, List.getElem_cons_succ, Option.isNone_some, Option.isNone_none, List.getD_cons_zero, List.getD_cons_succ, I.at, atL, atO, atP, evp, evs, retV, ↓reduceIte, Nat.reduceEqDiff, reduceCtorEq, AS, row5_2 hr, row5_3 hr]
      refine X_call0 ((culletref13_Basis_spec w2 j x).mono ?_)
      rintro _ w3 ⟨hB, ⟨j0, j1, rfl⟩ | ⟨-, rfl⟩⟩
      · exact absurd ⟨j0, j1⟩ hbad
      · have B := B.trans (hB.mono B.size)
        clear hB
        simp (maxSteps := 1000000) (disch := omega) only [WS, List.getElem_cons_zero, List.getElem_cons_succ, Option.isNone_some, Option.isNone_none, List.getD_cons_zero, List.getD_cons_succ, I.at, atL, atO, atP, evp, evs, retV, ↓reduceIte, Nat.reduceEqDiff, reduceCtorEq, AS, dt]
        exact B
theorem culletlaw13_all_spec (w : World) (s : Value) (rows : List (List Value)) (lo hi : Int) (h : Slw 5 w s rows) (hb : rows.length ≤ 70368744175616) (hq : ∀ vs ∈ rows, ∃ k, OpQ w vs k)
    (hv : ∀ w vs k, OpQ w vs k → lo ≤ k → k ≤ hi → k ≤ 4 → CallV Try.prog 38 [.agg vs.toArray] w fun v w' => v = .bool true ∧ RowKit.Below w.heap.size w w')
    (hl : ∀ w vs k, OpQ w vs k → lo ≤ k → k ≤ hi → 4 < k → CallV Try.prog 39 [.agg vs.toArray] w fun v w' => v = .bool true ∧ RowKit.Below w.heap.size w w') :
    CallV Try.prog 30 [s, .int .i64 lo, .int .i64 hi] w fun v w' => v = .bool true ∧ RowKit.Below w.heap.size w w' := by
  refine run_culletlaw13_all (by simp) ?_
  simp only [c_culletlaw13_all, WS, List.getElem_cons_zero, List.getElem_cons_succ, Option.isNone_some, Option.isNone_none, List.getD_cons_zero, List.getD_cons_succ, I.at, atL, atO, atP, evp, evs, retV, ↓reduceIte, Nat.reduceEqDiff, reduceCtorEq]
  refine X_call0 ((culletlaw13_awake_spec w).mono ?_)
  rintro _ w1 ⟨rfl, hB⟩
  have B := hB
  clear hB
  simp (maxSteps := 1000000) (disch := omega) only [WS, List.getElem_cons_zero, List.getElem_cons_succ, Option.isNone_some, Option.isNone_none, List.getD_cons_zero, List.getD_cons_succ, I.at, atL, atO, atP, evp, evs, retV, ↓reduceIte, Nat.reduceEqDiff, reduceCtorEq, AS, h.Xlen]
  refine loop_of (fun t w' => t 1 = .int .i64 lo ∧ t 2 = .int .i64 hi ∧ t 11 = s ∧ t 12 = .int .i64 (rows.length : Int) ∧ RowKit.Below w.heap.size w w' ∧ ∃ n : Nat, t 13 = .int .i64 (n : Int) ∧ n ≤ rows.length) (fun t _ => rows.length - (toI (t 13)).toNat) ⟨by simp only [WS, List.getElem_cons_zero, List.getElem_cons_succ, Option.isNone_some, Option.isNone_none, List.getD_cons_zero, List.getD_cons_succ, I.at, atL, atO, atP, evp, evs, retV, ↓reduceIte, Nat.reduceEqDiff, reduceCtorEq], by simp only [WS, List.getElem_cons_zero, List.getElem_cons_succ, Option.isNone_some, Option.isNone_none, List.getD_cons_zero, List.getD_cons_succ, I.at, atL, atO, atP, evp, evs, retV, ↓reduceIte, Nat.reduceEqDiff, reduceCtorEq], by simp only [WS, List.getElem_cons_zero, List.getElem_cons_succ, Option.isNone_some, Option.isNone_none, List.getD_cons_zero, List.getD_cons_succ, I.at, atL, atO, atP, evp, evs, retV, ↓reduceIte, Nat.reduceEqDiff, reduceCtorEq], by simp only [WS, List.getElem_cons_zero, List.getElem_cons_succ, Option.isNone_some, Option.isNone_none, List.getD_cons_zero, List.getD_cons_succ, I.at, atL, atO, atP, evp, evs, retV, ↓reduceIte, Nat.reduceEqDiff, reduceCtorEq], B, 0, rfl, by omega⟩ ?_
  clear B
  rintro t w2 ⟨t1, t2, t11, t12, B, n, t13, hn⟩
  by_cases hlt : n < rows.length
  · have hw := h.up B
    obtain ⟨k, hop⟩ := hq _ (List.getElem_mem hlt)
    have hop := hop.up B
    have hl5 := h.ln _ (List.getElem_mem hlt)
    simp (maxSteps := 1000000) (disch := omega) only [WS, List.getElem_cons_zero, List.getElem_cons_succ, Option.isNone_some, Option.isNone_none, List.getD_cons_zero, List.getD_cons_succ, I.at, atL, atO, atP, evp, evs, retV, ↓reduceIte, Nat.reduceEqDiff, reduceCtorEq, AS, t1, t2, t11, t12, t13, hw.Xix hlt, hw.Xldn hlt]
    generalize rows[n] = vs at hop hl5
    obtain ⟨i, j, x, d, l, rfl, hd, hdl⟩ := hop
    refine X_alloc fun b w3 hr hb hB => ?_
    simp (maxSteps := 1000000) (disch := omega) only [WS, List.getElem_cons_zero, List.getElem_cons_succ, Option.isNone_some, Option.isNone_none, List.getD_cons_zero, List.getD_cons_succ, I.at, atL, atO, atP, evp, evs, retV, ↓reduceIte, Nat.reduceEqDiff, reduceCtorEq, AS, t1, t2, t11, t12, t13]
    have hsc : ∀ u ∈ [Value.int .i64 k, .int .i64 i, .int .i64 j, .int .u16 (x.v.toNat : Int), d], scal u = true := by
      obtain ⟨a, cap, rfl, -⟩ := hd.sh
      intro u hu
      simp only [List.mem_cons, List.not_mem_nil, or_false] at hu
      rcases hu with rfl | rfl | rfl | rfl | rfl <;> rfl
    refine Row.Xstn hr hl5 hsc (by simp) fun w4 hr hg => ?_
    have B := (B.trans (hB.mono B.size)).grown hg (Nat.le_trans B.size hB.size) fun c hc => by cases hc; exact Nat.le_trans B.size hb
    have hd : Sl w4 d l := (hd.up hB).grown hg (by
      by_cases hl0 : l = []
      · exact Or.inr hl0
      · obtain ⟨c, hc, hclt⟩ := hd.blk_lt hl0
        left
        rw [hc]
        intro e
        cases e
        omega)
    have hop : OpQ w4 _ k := ⟨i, j, x, d, l, rfl, hd, hdl⟩
    clear hg hB hb
    by_cases h1 : k < lo
    · simp (maxSteps := 1000000) (disch := omega) only [WS, List.getElem_cons_zero, List.getElem_cons_succ, Option.isNone_some, Option.isNone_none, List.getD_cons_zero, List.getD_cons_succ, I.at, atL, atO, atP, evp, evs, retV, ↓reduceIte, Nat.reduceEqDiff, reduceCtorEq, AS, t1, t2, t11, t12, t13, row5_0 hr]
      exact ⟨⟨B, n + 1, rfl, by omega⟩, by omega⟩
    by_cases h2 : hi < k
    · simp (maxSteps := 1000000) (disch := omega) only [WS, List.getElem_cons_zero, List.getElem_cons_succ, Option.isNone_some, Option.isNone_none, List.getD_cons_zero, List.getD_cons_succ, I.at, atL, atO, atP, evp, evs, retV, ↓reduceIte, Nat.reduceEqDiff, reduceCtorEq, AS, t1, t2, t11, t12, t13, row5_0 hr]
      exact ⟨⟨B, n + 1, rfl, by omega⟩, by omega⟩
    by_cases h4 : k ≤ 4
    · simp (maxSteps := 1000000) (disch := omega) only [WS, List.getElem_cons_zero, List.getElem_cons_succ, Option.isNone_some, Option.isNone_none, List.getD_cons_zero, List.getD_cons_succ, I.at, atL, atO, atP, evp, evs, retV, ↓reduceIte, Nat.reduceEqDiff, reduceCtorEq, AS, t1, t2, t11, t12, t13, row5_0 hr, hr.Xldn hl5]
      refine X_call0 ((hv w4 _ k hop (by omega) (by omega) h4).mono ?_)
      rintro _ w5 ⟨rfl, hB⟩
      have hr := hr.up hB
      have B := B.trans (hB.mono B.size)
      clear hB
      simp (maxSteps := 1000000) (disch := omega) only [WS, List.getElem_cons_zero, List.getElem_cons_succ, Option.isNone_some, Option.isNone_none, List.getD_cons_zero, List.getD_cons_succ, I.at, atL, atO, atP, evp, evs, retV, ↓reduceIte, Nat.reduceEqDiff, reduceCtorEq, AS, t1, t2, t11, t12, t13, row5_0 hr]
      exact ⟨⟨B, n + 1, rfl, by omega⟩, by omega⟩
    · simp (maxSteps := 1000000) (disch := omega) only [WS, List.getElem_cons_zero, List.getElem_cons_succ, Option.isNone_some, Option.isNone_none, List.getD_cons_zero, List.getD_cons_succ, I.at, atL, atO, atP, evp, evs, retV, ↓reduceIte, Nat.reduceEqDiff, reduceCtorEq, AS, t1, t2, t11, t12, t13, row5_0 hr, hr.Xldn hl5]
      refine X_call0 ((hl w4 _ k hop (by omega) (by omega) (by omega)).mono ?_)
      rintro _ w5 ⟨rfl, hB⟩
      have B := B.trans (hB.mono B.size)
      clear hB
      simp (maxSteps := 1000000) (disch := omega) only [WS, List.getElem_cons_zero, List.getElem_cons_succ, Option.isNone_some, Option.isNone_none, List.getD_cons_zero, List.getD_cons_succ, I.at, atL, atO, atP, evp, evs, retV, ↓reduceIte, Nat.reduceEqDiff, reduceCtorEq, AS, t1, t2, t11, t12, t13]
      exact ⟨⟨B, n + 1, rfl, by omega⟩, by omega⟩
  · obtain rfl : n = rows.length := by omega
    simp (maxSteps := 1000000) (disch := omega) only [WS, List.getElem_cons_zero, List.getElem_cons_succ, Option.isNone_some, Option.isNone_none, List.getD_cons_zero, List.getD_cons_succ, I.at, atL, atO, atP, evp, evs, retV, ↓reduceIte, Nat.reduceEqDiff, reduceCtorEq, AS, t1, t2, t11, t12, t13]
    exact B
theorem culletlaw13_LchValues_spec (w : World) (s : Value) (rows : List (List Value)) (h : Slw 5 w s rows) (hb : rows.length ≤ 70368744175616) (hq : ∀ vs ∈ rows, ∃ k, OpQ w vs k) :
    CallV Try.prog 9 [s] w fun v w' => v = .bool true ∧ RowKit.Below w.heap.size w w' := by
  refine run_culletlaw13_LchValues (by simp) ?_
  simp only [c_culletlaw13_LchValues, WS, List.getElem_cons_zero, List.getElem_cons_succ, Option.isNone_some, Option.isNone_none, List.getD_cons_zero, List.getD_cons_succ, I.at, atL, atO, atP, evp, evs, retV, ↓reduceIte, Nat.reduceEqDiff, reduceCtorEq]
  refine X_call0 ((culletlaw13_all_spec w s rows 1 4 h hb hq (fun w vs k hop h1 h2 h4 => culletlaw13_values_spec w vs k hop ⟨h1, h4⟩) (fun w vs k hop h1 h2 h4 => by omega)).mono ?_)
  rintro _ w1 ⟨rfl, hB⟩
  simp (maxSteps := 1000000) (disch := omega) only [WS, List.getElem_cons_zero, List.getElem_cons_succ, Option.isNone_some, Option.isNone_none, List.getD_cons_zero, List.getD_cons_succ, I.at, atL, atO, atP, evp, evs, retV, ↓reduceIte, Nat.reduceEqDiff, reduceCtorEq, AS]
  exact hB
end Go.Proofs.Ytcnabolainmaeaa.Fw
