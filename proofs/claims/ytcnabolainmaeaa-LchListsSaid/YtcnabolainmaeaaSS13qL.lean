import Derived.Test.YtcnabolainmaeaaProg
import Derived.Test.YtcnabolainmaeaaFwTL
import Derived.Test.YtcnabolainmaeaaSS13pL
set_option linter.all false
set_option linter.unusedVariables false
set_option linter.unusedSimpArgs false
set_option maxRecDepth 100000
set_option maxHeartbeats 1000000
namespace Go.Proofs.Ytcnabolainmaeaa.Fw
open Go Go.Fw Go.Proofs
attribute [local irreducible] stepI
def c_culletlaw13_LchLists : C := .seq (.ops [⟨0, (some 2), none, .mov (.c (.bool false)), []⟩]) (.seq (.ops [⟨0, (some 3), none, .mov (.t 0), []⟩, ⟨1, (some 4), none, .call (.c (.func (.func 30) #[] #[])) [.t 3, .c (.int .i64 5), .c (.int .i64 6)], []⟩, ⟨2, (some 2), none, .mov (.t 4), []⟩]) .ret)
attribute [irreducible] c_culletlaw13_LchLists
theorem run_culletlaw13_LchLists {args : List Value} {w : World} {K : Value → World → Prop} (hn : args.length ≤ 5) (h : WP Try.prog c_culletlaw13_LchLists (endQ [.t 2] K) (initT args) w) : CallV Try.prog 10 args w K :=
  call_of follows Try.func10 (by kernel_rfl) (by kernel_rfl) hn h
def c_culletlaw13_asked : C := .seq (.ops [⟨0, (some 4), none, .mov (.c (.slice none 0 0)), []⟩, ⟨1, (some 5), none, .mov (.c (.int .i64 0)), []⟩]) (.seq (.seq (.ops [⟨0, (some 12), none, .mov (.t 0), []⟩]) (.block 0 (.seq (.ops [⟨0, (some 14), none, .bin .eql (.t 12) (.c (.int .i64 6)), []⟩, ⟨1, (some 13), none, .mov (.t 14), []⟩]) (.ite (.t 13) (.seq (.ops [⟨0, (some 16), none, .mov (.t 1), []⟩, ⟨1, (some 17), none, .call (.c (.func (.func 18) #[] #[])) [.t 16], []⟩, ⟨2, (some 15), none, .mov (.t 17), []⟩, ⟨3, (some 18), none, .ext (.t 15) 0, []⟩, ⟨4, (some 19), none, .ext (.t 15) 1, []⟩, ⟨5, (some 6), none, .mov (.t 18), []⟩, ⟨6, (some 7), none, .mov (.t 19), []⟩]) (.seq (.ops [⟨0, (some 20), none, .mov (.t 6), []⟩, ⟨1, (some 21), none, .mov (.t 7), []⟩, ⟨2, (some 4), none, .mov (.t 20), []⟩, ⟨3, (some 5), none, .mov (.t 21), []⟩]) .ret)) (.seq (.ops [⟨0, (some 23), none, .bin .eql (.t 12) (.c (.int .i64 7)), []⟩, ⟨1, (some 22), none, .mov (.t 23), []⟩]) (.ite (.t 22) (.seq (.ops [⟨0, (some 25), none, .mov (.t 1), []⟩, ⟨1, (some 26), none, .call (.c (.func (.func 20) #[] #[])) [.t 25], []⟩, ⟨2, (some 24), none, .mov (.t 26), []⟩, ⟨3, (some 27), none, .ext (.t 24) 0, []⟩, ⟨4, (some 28), none, .ext (.t 24) 1, []⟩, ⟨5, (some 8), none, .mov (.t 27), []⟩, ⟨6, (some 9), none, .mov (.t 28), []⟩]) (.seq (.ops [⟨0, (some 29), none, .mov (.t 8), []⟩, ⟨1, (some 30), none, .mov (.t 9), []⟩, ⟨2, (some 4), none, .mov (.t 29), []⟩, ⟨3, (some 5), none, .mov (.t 30), []⟩]) .ret)) .skip)))))) (.seq (.ops [⟨0, (some 32), none, .mov (.t 1), []⟩, ⟨1, (some 33), none, .call (.c (.func (.func 25) #[] #[])) [.t 32], []⟩, ⟨2, (some 31), none, .mov (.t 33), []⟩, ⟨3, (some 34), none, .ext (.t 31) 0, []⟩, ⟨4, (some 35), none, .ext (.t 31) 1, []⟩, ⟨5, (some 10), none, .mov (.t 34), []⟩, ⟨6, (some 11), none, .mov (.t 35), []⟩]) (.seq (.ops [⟨0, (some 36), none, .mov (.t 10), []⟩, ⟨1, (some 37), none, .mov (.t 11), []⟩, ⟨2, (some 4), none, .mov (.t 36), []⟩, ⟨3, (some 5), none, .mov (.t 37), []⟩]) .ret)))
attribute [irreducible] c_culletlaw13_asked
theorem run_culletlaw13_asked {args : List Value} {w : World} {K : Value → World → Prop} (hn : args.length ≤ 38) (h : WP Try.prog c_culletlaw13_asked (endQ [.t 4, .t 5] K) (initT args) w) : CallV Try.prog 27 args w K :=
  call_of follows Try.func27 (by kernel_rfl) (by kernel_rfl) hn h
def c_culletlaw13_lists : C := .seq (.ops [⟨0, (some 1), none, .box 63 (.t 0), []⟩, ⟨1, (some 2), none, .mov (.c (.bool false)), []⟩]) (.seq (.seq (.ops [⟨0, (some 15), none, .fad 0 (.t 1), []⟩, ⟨1, (some 16), none, .ld (.t 15), []⟩, ⟨2, (some 17), none, .bin .eql (.t 16) (.c (.int .i64 5)), []⟩]) (.ite (.t 17) (.seq (.dops [⟨0, (some 19), none, .fad 4 (.t 1), []⟩, ⟨1, (some 20), none, .ld (.t 19), []⟩, ⟨2, (some 21), none, .call (.c (.func (.func 19) #[] #[])) [.t 20], []⟩, ⟨3, (some 22), none, .fad 3 (.t 1), []⟩, ⟨4, (some 23), none, .ld (.t 22), [2]⟩, ⟨5, (some 24), none, .call (.c (.func (.func 26) #[] #[])) [.t 21, .t 23], []⟩, ⟨6, (some 18), none, .mov (.t 24), []⟩, ⟨7, (some 25), none, .ext (.t 18) 0, []⟩, ⟨8, (some 26), none, .ext (.t 18) 1, []⟩, ⟨9, (some 3), none, .mov (.t 25), []⟩, ⟨10, (some 4), none, .mov (.t 26), []⟩]) (.seq (.ops [⟨0, (some 28), none, .fad 4 (.t 1), []⟩, ⟨1, (some 29), none, .ld (.t 28), []⟩, ⟨2, (some 30), none, .fad 3 (.t 1), []⟩, ⟨3, (some 31), none, .ld (.t 30), []⟩, ⟨4, (some 32), none, .call (.c (.func (.func 51) #[] #[])) [.t 29, .t 31], []⟩, ⟨5, (some 27), none, .mov (.t 32), []⟩, ⟨6, (some 33), none, .ext (.t 27) 0, []⟩, ⟨7, (some 34), none, .ext (.t 27) 1, []⟩, ⟨8, (some 5), none, .mov (.t 33), []⟩, ⟨9, (some 6), none, .mov (.t 34), []⟩]) (.seq (.ops [⟨0, (some 35), none, .mov (.t 3), []⟩, ⟨1, (some 36), none, .mov (.t 5), []⟩, ⟨2, (some 37), none, .bin .eql (.t 35) (.t 36), []⟩, ⟨3, (some 38), none, .mov (.t 37), []⟩, ⟨4, (some 39), (some (38, true)), .mov (.t 4), []⟩, ⟨5, (some 40), (some (38, true)), .mov (.t 6), []⟩, ⟨6, (some 41), (some (38, true)), .bin .eql (.t 39) (.t 40), []⟩, ⟨7, (some 42), none, .pick (.t 38) (.t 41) (.c (.bool false)), []⟩, ⟨8, (some 2), none, .mov (.t 42), []⟩]) .ret))) .skip)) (.seq (.dops [⟨0, (some 44), none, .fad 0 (.t 1), []⟩, ⟨1, (some 45), none, .ld (.t 44), []⟩, ⟨2, (some 46), none, .fad 4 (.t 1), []⟩, ⟨3, (some 47), none, .ld (.t 46), []⟩, ⟨4, (some 48), none, .call (.c (.func (.func 19) #[] #[])) [.t 47], [1]⟩, ⟨5, (some 49), none, .call (.c (.func (.func 27) #[] #[])) [.t 45, .t 48], []⟩, ⟨6, (some 43), none, .mov (.t 49), []⟩, ⟨7, (some 50), none, .ext (.t 43) 0, []⟩, ⟨8, (some 51), none, .ext (.t 43) 1, []⟩, ⟨9, (some 7), none, .mov (.t 50), []⟩, ⟨10, (some 8), none, .mov (.t 51), []⟩]) (.seq (.seq (.ops [⟨0, (some 52), none, .fad 0 (.t 1), []⟩, ⟨1, (some 53), none, .ld (.t 52), []⟩]) (.block 0 (.seq (.ops [⟨0, (some 55), none, .bin .eql (.t 53) (.c (.int .i64 6)), []⟩, ⟨1, (some 54), none, .mov (.t 55), []⟩]) (.ite (.t 54) (.seq (.ops [⟨0, (some 57), none, .fad 4 (.t 1), []⟩, ⟨1, (some 58), none, .ld (.t 57), []⟩, ⟨2, (some 59), none, .call (.c (.func (.func 52) #[] #[])) [.t 58], []⟩, ⟨3, (some 56), none, .mov (.t 59), []⟩, ⟨4, (some 60), none, .ext (.t 56) 0, []⟩, ⟨5, (some 61), none, .ext (.t 56) 1, []⟩, ⟨6, (some 9), none, .mov (.t 60), []⟩, ⟨7, (some 10), none, .mov (.t 61), []⟩]) (.seq (.ops [⟨0, (some 62), none, .mov (.t 7), []⟩, ⟨1, (some 63), none, .mov (.t 9), []⟩, ⟨2, (some 64), none, .call (.c (.func (.func 22) #[] #[])) [.t 62, .t 63], []⟩, ⟨3, (some 65), none, .mov (.t 64), []⟩, ⟨4, (some 66), (some (65, true)), .mov (.t 8), []⟩, ⟨5, (some 67), (some (65, true)), .mov (.t 10), []⟩, ⟨6, (some 68), (some (65, true)), .bin .eql (.t 66) (.t 67), []⟩, ⟨7, (some 69), none, .pick (.t 65) (.t 68) (.c (.bool false)), []⟩, ⟨8, (some 2), none, .mov (.t 69), []⟩]) .ret)) (.seq (.ops [⟨0, (some 71), none, .bin .eql (.t 53) (.c (.int .i64 7)), []⟩, ⟨1, (some 70), none, .mov (.t 71), []⟩]) (.ite (.t 70) (.seq (.ops [⟨0, (some 73), none, .fad 4 (.t 1), []⟩, ⟨1, (some 74), none, .ld (.t 73), []⟩, ⟨2, (some 75), none, .call (.c (.func (.func 53) #[] #[])) [.t 74], []⟩, ⟨3, (some 72), none, .mov (.t 75), []⟩, ⟨4, (some 76), none, .ext (.t 72) 0, []⟩, ⟨5, (some 77), none, .ext (.t 72) 1, []⟩, ⟨6, (some 11), none, .mov (.t 76), []⟩, ⟨7, (some 12), none, .mov (.t 77), []⟩]) (.seq (.ops [⟨0, (some 78), none, .mov (.t 7), []⟩, ⟨1, (some 79), none, .mov (.t 11), []⟩, ⟨2, (some 80), none, .call (.c (.func (.func 22) #[] #[])) [.t 78, .t 79], []⟩, ⟨3, (some 81), none, .mov (.t 80), []⟩, ⟨4, (some 82), (some (81, true)), .mov (.t 8), []⟩, ⟨5, (some 83), (some (81, true)), .mov (.t 12), []⟩, ⟨6, (some 84), (some (81, true)), .bin .eql (.t 82) (.t 83), []⟩, ⟨7, (some 85), none, .pick (.t 81) (.t 84) (.c (.bool false)), []⟩, ⟨8, (some 2), none, .mov (.t 85), []⟩]) .ret)) .skip)))))) (.seq (.ops [⟨0, (some 87), none, .fad 4 (.t 1), []⟩, ⟨1, (some 88), none, .ld (.t 87), []⟩, ⟨2, (some 89), none, .call (.c (.func (.func 54) #[] #[])) [.t 88], []⟩, ⟨3, (some 86), none, .mov (.t 89), []⟩, ⟨4, (some 90), none, .ext (.t 86) 0, []⟩, ⟨5, (some 91), none, .ext (.t 86) 1, []⟩, ⟨6, (some 13), none, .mov (.t 90), []⟩, ⟨7, (some 14), none, .mov (.t 91), []⟩]) (.seq (.ops [⟨0, (some 92), none, .mov (.t 7), []⟩, ⟨1, (some 93), none, .mov (.t 13), []⟩, ⟨2, (some 94), none, .call (.c (.func (.func 22) #[] #[])) [.t 92, .t 93], []⟩, ⟨3, (some 95), none, .mov (.t 94), []⟩, ⟨4, (some 96), (some (95, true)), .mov (.t 8), []⟩, ⟨5, (some 97), (some (95, true)), .mov (.t 14), []⟩, ⟨6, (some 98), (some (95, true)), .bin .eql (.t 96) (.t 97), []⟩, ⟨7, (some 99), none, .pick (.t 95) (.t 98) (.c (.bool false)), []⟩, ⟨8, (some 2), none, .mov (.t 99), []⟩]) .ret)))))
attribute [irreducible] c_culletlaw13_lists
theorem run_culletlaw13_lists {args : List Value} {w : World} {K : Value → World → Prop} (hn : args.length ≤ 100) (h : WP Try.prog c_culletlaw13_lists (endQ [.t 2] K) (initT args) w) : CallV Try.prog 39 args w K :=
  call_of follows Try.func39 (by kernel_rfl) (by kernel_rfl) hn h
end Go.Proofs.Ytcnabolainmaeaa.Fw
namespace Go.Proofs.Ytcnabolainmaeaa.Fw
open Go Go.Fw
theorem culletlaw13_asked6_spec (w : World) (s : Value) (l : List (El 16)) (h : Sl w s l) (hb : l.length ≤ 70368744175616) : CallV Try.prog 27 [.int .i64 6, s] w fun v w' => RowKit.Below w.heap.size w w' ∧
    ((∃ k, k ≤ 16 ∧ l.length = 2 ^ k ∧ ∃ sv m, v = .tuple #[sv, .int .i64 0] ∧ Ow w.heap.size w' sv m ∧ m.length = 2 ^ k ∧ ∀ j, j < 2 ^ k → (co m).c j = dX k (co l).c j) ∨ (¬ (1 ≤ l.length ∧ l.length ≤ 65536 ∧ l.length &&& (l.length - 1) = 0) ∧ v = .tuple #[.slice none 0 0, .int .i64 130])) := by
  refine run_culletlaw13_asked (by simp) ?_
  simp only [c_culletlaw13_asked, WS, List.getElem_cons_zero, List.getElem_cons_succ, Option.isNone_some, Option.isNone_none, List.getD_cons_zero, List.getD_cons_succ, I.at, atL, atO, atP, evp, evs, retV, ↓reduceIte, Nat.reduceEqDiff, reduceCtorEq, show decide ((6 : Int) = 6) = true from rfl]
  refine X_call0 ((lch_Derivative_spec w s l h hb).mono ?_)
  rintro _ w1 ⟨hB, ⟨k, hk, hlk, sv, m, rfl, om, ml, mc⟩ | ⟨hbad, rfl⟩⟩
  · simp (maxSteps := 1000000) (disch := omega) only [WS, List.getElem_cons_zero, List.getElem_cons_succ, Option.isNone_some, Option.isNone_none, List.getD_cons_zero, List.getD_cons_succ, I.at, atL, atO, atP, evp, evs, retV, ↓reduceIte, Nat.reduceEqDiff, reduceCtorEq, AS]
    exact ⟨hB, Or.inl ⟨k, hk, hlk, sv, m, rfl, om, ml, mc⟩⟩
  · simp (maxSteps := 1000000) (disch := omega) only [WS, List.getElem_cons_zero, List.getElem_cons_succ, Option.isNone_some, Option.isNone_none, List.getD_cons_zero, List.getD_cons_succ, I.at, atL, atO, atP, evp, evs, retV, ↓reduceIte, Nat.reduceEqDiff, reduceCtorEq, AS]
    exact ⟨hB, Or.inr hbad⟩
section
variable {n_ : Nat} {u_ : List Nat} {rs_ : List RN} {es_ : List EN}
theorem row5e_0 {w : World} {b : Nat} {a0 a1 a2 a3 a4 : Value} (h : Row w b [a0, a1, a2, a3, a4]) (P : Program) (d : Option Nat) (l : List D) (Q : T → World → Prop) (t : T) : XE P n_ (.ld (.c (.pointer (some ⟨b, 0, none⟩)))) u_ d l Q rs_ es_ t w = (okE P (.ld (.c (.pointer (some ⟨b, 0, none⟩)))) a0 u_ es_ ∧ WE P Q l ((n_, .ld (.c (.pointer (some ⟨b, 0, none⟩))), a0) :: rs_) es_ (put t d a0) w) := by
  have := h.Eld (o := 0) (by simp) P d l Q t (n_ := n_) (u_ := u_) (rs_ := rs_) (es_ := es_)
  exact this
theorem row5s_0 {w : World} {b : Nat} {a0 a1 a2 a3 a4 : Value} (h : Row w b [a0, a1, a2, a3, a4]) (P : Program) : Fw.sees P (.ld (.c (.pointer (some ⟨b, 0, none⟩)))) w a0 = True := h.sees (o := 0) (by simp) P
theorem row5e_3 {w : World} {b : Nat} {a0 a1 a2 a3 a4 : Value} (h : Row w b [a0, a1, a2, a3, a4]) (P : Program) (d : Option Nat) (l : List D) (Q : T → World → Prop) (t : T) : XE P n_ (.ld (.c (.pointer (some ⟨b, 3, none⟩)))) u_ d l Q rs_ es_ t w = (okE P (.ld (.c (.pointer (some ⟨b, 3, none⟩)))) a3 u_ es_ ∧ WE P Q l ((n_, .ld (.c (.pointer (some ⟨b, 3, none⟩))), a3) :: rs_) es_ (put t d a3) w) := by
  have := h.Eld (o := 3) (by simp) P d l Q t (n_ := n_) (u_ := u_) (rs_ := rs_) (es_ := es_)
  exact this
theorem row5s_3 {w : World} {b : Nat} {a0 a1 a2 a3 a4 : Value} (h : Row w b [a0, a1, a2, a3, a4]) (P : Program) : Fw.sees P (.ld (.c (.pointer (some ⟨b, 3, none⟩)))) w a3 = True := h.sees (o := 3) (by simp) P
theorem row5e_4 {w : World} {b : Nat} {a0 a1 a2 a3 a4 : Value} (h : Row w b [a0, a1, a2, a3, a4]) (P : Program) (d : Option Nat) (l : List D) (Q : T → World → Prop) (t : T) : XE P n_ (.ld (.c (.pointer (some ⟨b, 4, none⟩)))) u_ d l Q rs_ es_ t w = (okE P (.ld (.c (.pointer (some ⟨b, 4, none⟩)))) a4 u_ es_ ∧ WE P Q l ((n_, .ld (.c (.pointer (some ⟨b, 4, none⟩))), a4) :: rs_) es_ (put t d a4) w) := by
  have := h.Eld (o := 4) (by simp) P d l Q t (n_ := n_) (u_ := u_) (rs_ := rs_) (es_ := es_)
  exact this
end
theorem culletlaw13_lists5_spec (w : World) (vs : List Value) (h : OpQ w vs 5) :
    CallV Try.prog 39 [.agg vs.toArray] w fun v w' => v = .bool true ∧ RowKit.Below w.heap.size w w' := by
  obtain ⟨i, j, x, d, l, rfl, hd, hl⟩ := h
  refine run_culletlaw13_lists (by simp) ?_
  simp only [c_culletlaw13_lists, WS, List.getElem_cons_zero, List.getElem_cons_succ, Option.isNone_some, Option.isNone_none, List.getD_cons_zero, List.getD_cons_succ, I.at, atL, atO, atP, evp, evs, retV, ↓reduceIte, Nat.reduceEqDiff, reduceCtorEq]
  refine X_box fun b w1 hr hb hB => ?_
  have hr : Row w1 b [.int .i64 5, .int .i64 i, .int .i64 j, .int .u16 (x.v.toNat : Int), d] := hr
  have B := hB
  have hd := hd.up hB
  clear hB
  simp (maxSteps := 1000000) (disch := omega) only [WS, List.getElem_cons_zero, List.getElem_cons_succ, Option.isNone_some, Option.isNone_none, List.getD_cons_zero, List.getD_cons_succ, I.at, atL, atO, atP, evp, evs, retV, ↓reduceIte, Nat.reduceEqDiff, reduceCtorEq, AS, row5_0 hr, show decide ((5 : Int) = 5) = true from rfl]
  refine WP_dops ?_
  have hrd := hr.drew
  have see := row5s_3 hrd Try.prog
  simp (maxSteps := 1000000) (disch := omega) only [ES, List.mem_cons, List.not_mem_nil, implies_true, forall_const, WS, List.getElem_cons_zero, List.getElem_cons_succ, Option.isNone_some, Option.isNone_none, List.getD_cons_zero, List.getD_cons_succ, I.at, atL, atO, atP, evp, evs, retV, ↓reduceIte, Nat.reduceEqDiff, reduceCtorEq, AS, row5e_4 hrd]
  refine E_call0 ((culletlaw13_twin_spec w1.drew d l hd.drew hl).mono ?_)
  rintro st w2 ⟨ot, hB⟩
  have ot := ot.sl
  have hB := (bel_drew w1).trans hB
  have hr2 := hr.up hB
  have hd := hd.up hB
  have B := B.trans (hB.mono B.size)
  clear hB
  simp (maxSteps := 1000000) (disch := omega) only [ES, List.mem_cons, List.not_mem_nil, implies_true, forall_const, WS, List.getElem_cons_zero, List.getElem_cons_succ, Option.isNone_some, Option.isNone_none, List.getD_cons_zero, List.getD_cons_succ, I.at, atL, atO, atP, evp, evs, retV, ↓reduceIte, Nat.reduceEqDiff, reduceCtorEq, AS, row5e_3 hr2, see]
  refine E_call0 ((lch_Eval_spec w2 st l x ot hl).mono ?_)
  rintro _ w3 ⟨hB, h1⟩
  have hr3 := hr2.up hB
  have hd := hd.up hB
  have B := B.trans (hB.mono B.size)
  clear hB
  rcases h1 with ⟨hbad, rfl⟩ | ⟨hok, rfl⟩
  · simp (maxSteps := 1000000) (disch := omega) only [ES, List.mem_cons, List.not_mem_nil, implies_true, forall_const, WS, List.getElem_cons_zero, List.getElem_cons_succ, Option.isNone_some, Option.isNone_none, List.getD_cons_zero, List.getD_cons_succ, I.at, atL, atO, atP, evp, evs, retV, ↓reduceIte, Nat.reduceEqDiff, reduceCtorEq, AS, row5e_4 hr3]
    simp (maxSteps := 1000000) (disch := omega) only [WS, List.getElem_cons_zero, List.getElem_cons_succ, Option.isNone_some, Option.isNone_none, List.getD_cons_zero, List.getD_cons_succ, I.at, atL, atO, atP, evp, evs, retV, ↓reduceIte, Nat.reduceEqDiff, reduceCtorEq, AS, row5_4 hr3, row5_3 hr3]
    refine X_call0 ((culletref13_Eval_spec w3 d l x hd hl).mono ?_)
    rintro _ w4 ⟨hB, ⟨-, rfl⟩ | ⟨hok, -⟩⟩
    · have B := B.trans (hB.mono B.size)
      clear hB
      simp (maxSteps := 1000000) (disch := omega) only [WS, List.getElem_cons_zero, List.getElem_cons_succ, Option.isNone_some, Option.isNone_none, List.getD_cons_zero, List.getD_cons_succ, I.at, atL, atO, atP, evp, evs, retV, ↓reduceIte, Nat.reduceEqDiff, reduceCtorEq, AS, show decide ((0 : Int) = 0) = true from rfl, show decide ((5 : Int) = 5) = true from rfl]
      exact B
    · omega
  · simp (maxSteps := 1000000) (disch := omega) only [ES, List.mem_cons, List.not_mem_nil, implies_true, forall_const, WS, List.getElem_cons_zero, List.getElem_cons_succ, Option.isNone_some, Option.isNone_none, List.getD_cons_zero, List.getD_cons_succ, I.at, atL, atO, atP, evp, evs, retV, ↓reduceIte, Nat.reduceEqDiff, reduceCtorEq, AS, row5e_4 hr3]
    simp (maxSteps := 1000000) (disch := omega) only [WS, List.getElem_cons_zero, List.getElem_cons_succ, Option.isNone_some, Option.isNone_none, List.getD_cons_zero, List.getD_cons_succ, I.at, atL, atO, atP, evp, evs, retV, ↓reduceIte, Nat.reduceEqDiff, reduceCtorEq, AS, row5_4 hr3, row5_3 hr3]
    refine X_call0 ((culletref13_Eval_spec w3 d l x hd hl).mono ?_)
    rintro _ w4 ⟨hB, ⟨hbad, -⟩ | ⟨-, rfl⟩⟩
    · omega
    · have B := B.trans (hB.mono B.size)
      clear hB
      simp (maxSteps := 1000000) (disch := omega) only [WS, List.getElem_cons_zero, List.getElem_cons_succ, Option.isNone_some, Option.isNone_none, List.getD_cons_zero, List.getD_cons_succ, I.at, atL, atO, atP, evp, evs, retV, ↓reduceIte, Nat.reduceEqDiff, reduceCtorEq, AS, show decide ((0 : Int) = 0) = true from rfl, show ∀ e : Int, decide (e = e) = true from fun e => decide_eq_true rfl]
      exact B
theorem culletlaw13_lists6_spec (w : World) (vs : List Value) (h : OpQ w vs 6) :
    CallV Try.prog 39 [.agg vs.toArray] w fun v w' => v = .bool true ∧ RowKit.Below w.heap.size w w' := by
  obtain ⟨i, j, x, d, l, rfl, hd, hl⟩ := h
  refine run_culletlaw13_lists (by simp) ?_
  simp only [c_culletlaw13_lists, WS, List.getElem_cons_zero, List.getElem_cons_succ, Option.isNone_some, Option.isNone_none, List.getD_cons_zero, List.getD_cons_succ, I.at, atL, atO, atP, evp, evs, retV, ↓reduceIte, Nat.reduceEqDiff, reduceCtorEq]
  refine X_box fun b w1 hr hb hB => ?_
  have hr : Row w1 b [.int .i64 6, .int .i64 i, .int .i64 j, .int .u16 (x.v.toNat : Int), d] := hr
  have B := hB
  have hd := hd.up hB
  clear hB
  simp (maxSteps := 1000000) (disch := omega) only [WS, List.getElem_cons_zero, List.getElem_cons_succ, Option.isNone_some, Option.isNone_none, List.getD_cons_zero, List.getD_cons_succ, I.at, atL, atO, atP, evp, evs, retV, ↓reduceIte, Nat.reduceEqDiff, reduceCtorEq, AS, row5_0 hr, show decide ((6 : Int) = 5) = false from rfl]
  refine WP_dops ?_
  have hrd := hr.drew
  have see := row5s_0 hrd Try.prog
  simp (maxSteps := 1000000) (disch := omega) only [ES, List.mem_cons, List.not_mem_nil, implies_true, forall_const, WS, List.getElem_cons_zero, List.getElem_cons_succ, Option.isNone_some, Option.isNone_none, List.getD_cons_zero, List.getD_cons_succ, I.at, atL, atO, atP, evp, evs, retV, ↓reduceIte, Nat.reduceEqDiff, reduceCtorEq, AS, row5e_0 hrd, row5e_4 hrd]
  refine E_call0 ((culletlaw13_twin_spec w1.drew d l hd.drew hl).mono ?_)
  rintro st w2 ⟨ot, hB⟩
  have ot := ot.sl
  have hB := (bel_drew w1).trans hB
  have hr2 := hr.up hB
  have see2 := row5s_0 hr2 Try.prog
  have hd := hd.up hB
  have B := B.trans (hB.mono B.size)
  clear hB
  simp (maxSteps := 1000000) (disch := omega) only [ES, List.mem_cons, List.not_mem_nil, implies_true, forall_const, WS, List.getElem_cons_zero, List.getElem_cons_succ, Option.isNone_some, Option.isNone_none, List.getD_cons_zero, List.getD_cons_succ, I.at, atL, atO, atP, evp, evs, retV, ↓reduceIte, Nat.reduceEqDiff, reduceCtorEq, AS, see, see2]
  refine E_call0 ((culletlaw13_asked6_spec w2 st l ot hl).mono ?_)
  rintro _ w3 ⟨hB, h1⟩
  have hr3 := hr2.up hB
  rcases h1 with ⟨k, hk, hlk, sa, a, rfl, oa, al, ac⟩ | ⟨hbad, rfl⟩
  · have oa := oa.sl
    have hd := hd.up hB
    have B := B.trans (hB.mono B.size)
    clear hB
    simp (maxSteps := 1000000) (disch := omega) only [ES, List.mem_cons, List.not_mem_nil, implies_true, forall_const, WS, List.getElem_cons_zero, List.getElem_cons_succ, Option.isNone_some, Option.isNone_none, List.getD_cons_zero, List.getD_cons_succ, I.at, atL, atO, atP, evp, evs, retV, ↓reduceIte, Nat.reduceEqDiff, reduceCtorEq, AS, row5e_0 hr3]
    simp (maxSteps := 1000000) (disch := omega) only [WS, List.getElem_cons_zero, List.getElem_cons_succ, Option.isNone_some, Option.isNone_none, List.getD_cons_zero, List.getD_cons_succ, I.at, atL, atO, atP, evp, evs, retV, ↓reduceIte, Nat.reduceEqDiff, reduceCtorEq, AS, row5_0 hr3, row5_4 hr3, show decide ((6 : Int) = 6) = true from rfl]
    refine X_call0 ((culletref13_Derivative_spec w3 d l hd hl).mono ?_)
    rintro _ w4 ⟨hB, ⟨k2, -, hlk2, sc, c, rfl, oc, cl, cc⟩ | ⟨hbad, -⟩⟩
    · obtain rfl : k2 = k := (Nat.pow_right_inj (a := 2) (by omega)).1 (hlk2.symm.trans hlk)
      have oc := oc.sl
      have oa := oa.up hB
      have B := B.trans (hB.mono B.size)
      clear hB
      have he : a = c := co_ext (al.trans cl.symm) (Ps.ext fun u => by
        by_cases hu : u < 2 ^ k2
        · rw [ac u hu, cc u hu]
        · rw [co_dg a u (by omega), co_dg c u (by omega)])
      have hk16 := pow_le16' hk
      simp (maxSteps := 1000000) (disch := omega) only [WS, List.getElem_cons_zero, List.getElem_cons_succ, Option.isNone_some, Option.isNone_none, List.getD_cons_zero, List.getD_cons_succ, I.at, atL, atO, atP, evp, evs, retV, ↓reduceIte, Nat.reduceEqDiff, reduceCtorEq, AS]
      refine X_call0 ((culletlaw13_same_spec w4 sa sc a c oa oc (by omega) (by omega)).mono ?_)
      rintro _ w5 ⟨rfl, hk1⟩
      have hB := hk1.1
      have B := B.trans (hB.mono B.size)
      clear hB
      rw [decide_eq_true he]
      simp (maxSteps := 1000000) (disch := omega) only [WS, List.getElem_cons_zero, List.getElem_cons_succ, Option.isNone_some, Option.isNone_none, List.getD_cons_zero, List.getD_cons_succ, I.at, atL, atO, atP, evp, evs, retV, ↓reduceIte, Nat.reduceEqDiff, reduceCtorEq, AS, show decide ((0 : Int) = 0) = true from rfl]
      exact B
    · have hk16 := pow_le16' hk
      have := Nat.two_pow_pos k
      exact absurd ⟨by omega, by omega, by rw [hlk]; exact and_pred_pow k⟩ hbad
  · have hd := hd.up hB
    have B := B.trans (hB.mono B.size)
    clear hB
    simp (maxSteps := 1000000) (disch := omega) only [ES, List.mem_cons, List.not_mem_nil, implies_true, forall_const, WS, List.getElem_cons_zero, List.getElem_cons_succ, Option.isNone_some, Option.isNone_none, List.getD_cons_zero, List.getD_cons_succ, I.at, atL, atO, atP, evp, evs, retV, ↓reduceIte, Nat.reduceEqDiff, reduceCtorEq, AS, row5e_0 hr3]
    simp (maxSteps := 1000000) (disch := omega) only [WS, List.getElem_cons_zero, List.getElem_cons_succ, Option.isNone_some, Option.isNone_none, List.getD_cons_zero, List.getD_cons_succ, I.at, atL, atO, atP, evp, evs, retV, ↓reduceIte, Nat.reduceEqDiff, reduceCtorEq, AS, row5_0 hr3, row5_4 hr3, show decide ((6 : Int) = 6) = true from rfl]
    refine X_call0 ((culletref13_Derivative_spec w3 d l hd hl).mono ?_)
    rintro _ w4 ⟨hB, ⟨k, hk, hlk, -⟩ | ⟨-, rfl⟩⟩
    · have hk16 := pow_le16' hk
      have := Nat.two_pow_pos k
      exact absurd ⟨by omega, by omega, by rw [hlk]; exact and_pred_pow k⟩ hbad
    · have B := B.trans (hB.mono B.size)
      clear hB
      simp (maxSteps := 1000000) (disch := omega) only [WS, List.getElem_cons_zero, List.getElem_cons_succ, Option.isNone_some, Option.isNone_none, List.getD_cons_zero, List.getD_cons_succ, I.at, atL, atO, atP, evp, evs, retV, ↓reduceIte, Nat.reduceEqDiff, reduceCtorEq, AS]
      refine X_call0 ((culletlaw13_same_spec w4 _ _ _ _ (Sl.nil (α := El 16) w4) (Sl.nil (α := El 16) w4) (by simp) (by simp)).mono ?_)
      rintro _ w5 ⟨rfl, hk1⟩
      have hB := hk1.1
      have B := B.trans (hB.mono B.size)
      clear hB
      rw [decide_eq_true rfl]
      simp (maxSteps := 1000000) (disch := omega) only [WS, List.getElem_cons_zero, List.getElem_cons_succ, Option.isNone_some, Option.isNone_none, List.getD_cons_zero, List.getD_cons_succ, I.at, atL, atO, atP, evp, evs, retV, ↓reduceIte, Nat.reduceEqDiff, reduceCtorEq, AS, show decide ((130 : Int) = 130) = true from rfl]
      exact B
theorem culletlaw13_LchLists_spec (w : World) (s : Value) (rows : List (List Value)) (h : Slw 5 w s rows) (hb : rows.length ≤ 70368744175616) (hq : ∀ vs ∈ rows, ∃ k, OpQ w vs k) :
    CallV Try.prog 10 [s] w fun v w' => v = .bool true ∧ RowKit.Below w.heap.size w w' := by
  refine run_culletlaw13_LchLists (by simp) ?_
  simp only [c_culletlaw13_LchLists, WS, List.getElem_cons_zero, List.getElem_cons_succ, Option.isNone_some, Option.isNone_none, List.getD_cons_zero, List.getD_cons_succ, I.at, atL, atO, atP, evp, evs, retV, ↓reduceIte, Nat.reduceEqDiff, reduceCtorEq]
  have hls : ∀ w vs k, OpQ w vs k → (5 : Int) ≤ k → k ≤ 6 → 4 < k → CallV Try.prog 39 [.agg vs.toArray] w fun v w' => v = .bool true ∧ RowKit.Below w.heap.size w w' := fun w vs k hop h1 h2 h4 => by
    have hk : k = 5 ∨ k = 6 := by omega
    rcases hk with rfl | rfl
    · exact culletlaw13_lists5_spec w vs hop
    · exact culletlaw13_lists6_spec w vs hop
  refine X_call0 ((culletlaw13_all_spec w s rows 5 6 h hb hq (fun w vs k hop h1 h2 h4 => by omega) hls).mono ?_)
  rintro _ w1 ⟨rfl, hB⟩
  simp (maxSteps := 1000000) (disch := omega) only [WS, List.getElem_cons_zero, List.getElem_cons_succ, Option.isNone_some, Option.isNone_none, List.getD_cons_zero, List.getD_cons_succ, I.at, atL, atO, atP, evp, evs, retV, ↓reduceIte, Nat.reduceEqDiff, reduceCtorEq, AS]
  exact hB
end Go.Proofs.Ytcnabolainmaeaa.Fw
