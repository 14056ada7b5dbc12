import Derived.Test.YtcnabolainmaeaaProg
import Derived.Test.YtcnabolainmaeaaFwTM
import Derived.Test.YtcnabolainmaeaaSS13pM
set_option linter.all false
set_option linter.unusedVariables false
set_option linter.unusedSimpArgs false
set_option maxRecDepth 100000
set_option maxHeartbeats 1000000
namespace Go.Proofs.Ytcnabolainmaeaa.Fw
open Go Go.Fw Go.Proofs
attribute [local irreducible] stepI
def c_culletlaw13_asked : C := .seq (.ops [⟨0, (some 4), none, .mov (.c (.slice none 0 0)), []⟩, ⟨1, (some 5), none, .mov (.c (.int .i64 0)), []⟩]) (.seq (.seq (.ops [⟨0, (some 12), none, .mov (.t 0), []⟩]) (.block 0 (.seq (.ops [⟨0, (some 14), none, .bin .eql (.t 12) (.c (.int .i64 6)), []⟩, ⟨1, (some 13), none, .mov (.t 14), []⟩]) (.ite (.t 13) (.seq (.ops [⟨0, (some 16), none, .mov (.t 1), []⟩, ⟨1, (some 17), none, .call (.c (.func (.func 18) #[] #[])) [.t 16], []⟩, ⟨2, (some 15), none, .mov (.t 17), []⟩, ⟨3, (some 18), none, .ext (.t 15) 0, []⟩, ⟨4, (some 19), none, .ext (.t 15) 1, []⟩, ⟨5, (some 6), none, .mov (.t 18), []⟩, ⟨6, (some 7), none, .mov (.t 19), []⟩]) (.seq (.ops [⟨0, (some 20), none, .mov (.t 6), []⟩, ⟨1, (some 21), none, .mov (.t 7), []⟩, ⟨2, (some 4), none, .mov (.t 20), []⟩, ⟨3, (some 5), none, .mov (.t 21), []⟩]) .ret)) (.seq (.ops [⟨0, (some 23), none, .bin .eql (.t 12) (.c (.int .i64 7)), []⟩, ⟨1, (some 22), none, .mov (.t 23), []⟩]) (.ite (.t 22) (.seq (.ops [⟨0, (some 25), none, .mov (.t 1), []⟩, ⟨1, (some 26), none, .call (.c (.func (.func 20) #[] #[])) [.t 25], []⟩, ⟨2, (some 24), none, .mov (.t 26), []⟩, ⟨3, (some 27), none, .ext (.t 24) 0, []⟩, ⟨4, (some 28), none, .ext (.t 24) 1, []⟩, ⟨5, (some 8), none, .mov (.t 27), []⟩, ⟨6, (some 9), none, .mov (.t 28), []⟩]) (.seq (.ops [⟨0, (some 29), none, .mov (.t 8), []⟩, ⟨1, (some 30), none, .mov (.t 9), []⟩, ⟨2, (some 4), none, .mov (.t 29), []⟩, ⟨3, (some 5), none, .mov (.t 30), []⟩]) .ret)) .skip)))))) (.seq (.ops [⟨0, (some 32), none, .mov (.t 1), []⟩, ⟨1, (some 33), none, .call (.c (.func (.func 25) #[] #[])) [.t 32], []⟩, ⟨2, (some 31), none, .mov (.t 33), []⟩, ⟨3, (some 34), none, .ext (.t 31) 0, []⟩, ⟨4, (some 35), none, .ext (.t 31) 1, []⟩, ⟨5, (some 10), none, .mov (.t 34), []⟩, ⟨6, (some 11), none, .mov (.t 35), []⟩]) (.seq (.ops [⟨0, (some 36), none, .mov (.t 10), []⟩, ⟨1, (some 37), none, .mov (.t 11), []⟩, ⟨2, (some 4), none, .mov (.t 36), []⟩, ⟨3, (some 5), none, .mov (.t 37), []⟩]) .ret)))
attribute [irreducible] c_culletlaw13_asked
theorem run_culletlaw13_asked {args : List Value} {w : World} {K : Value → World → Prop} (hn : args.length ≤ 38) (h : WP Try.prog c_culletlaw13_asked (endQ [.t 4, .t 5] K) (initT args) w) : CallV Try.prog 27 args w K :=
  call_of follows Try.func27 (by kernel_rfl) (by kernel_rfl) hn h
end Go.Proofs.Ytcnabolainmaeaa.Fw
namespace Go.Proofs.Ytcnabolainmaeaa.Fw
open Go Go.Fw
theorem culletlaw13_asked6_spec (w : World) (s : Value) (l : List (El 16)) (h : Sl w s l) (hb : l.length ≤ 70368744175616) : CallV Try.prog 27 [.int .i64 6, s] w fun v w' => RowKit.Below w.heap.size w w' ∧
    ((∃ k, k ≤ 16 ∧ l.length = 2 ^ k ∧ ∃ sv m, v = .tuple #[sv, .int .i64 0] ∧ Ow w.heap.size w' sv m ∧ m.length = 2 ^ k ∧ ∀ j, j < 2 ^ k → (co m).c j = dX k (co l).c j) ∨ (¬ (1 ≤ l.length ∧ l.length ≤ 65536 ∧ l.length &&& (l.length - 1) = 0) ∧ v = .tuple #[.slice none 0 0, .int .i64 130])) := by
  refine run_culletlaw13_asked (by simp) ?_
  simp only [c_culletlaw13_asked, WS, List.getElem_cons_zero, List.getElem_cons_succ, Option.isNone_some, Option.isNone_none, List.getD_cons_zero, List.getD_cons_succ, I.at, atL, atO, atP, evp, evs, retV, ↓reduceIte, Nat.reduceEqDiff, reduceCtorEq, show decide ((6 : Int) = 6) = true from rfl]
  refine X_call0 ((lch_Derivative_spec w s l h hb).mono ?_)
  rintro _ w1 ⟨hB, ⟨k, hk, hlk, sv, m, rfl, om, ml, mc⟩ | ⟨hbad, rfl⟩⟩
  · simp (maxSteps := 1000000) (disch := omega) only [WS, List.getElem_cons_zero, List.getElem_cons_succ, Option.isNone_some, Option.isNone_none, List.getD_cons_zero, List.getD_cons_succ, I.at, atL, atO, atP, evp, evs, retV, ↓reduceIte, Nat.reduceEqDiff, reduceCtorEq, AS]
    exact ⟨hB, Or.inl ⟨k, hk, hlk, sv, m, rfl, om, ml, mc⟩⟩
  · simp (maxSteps := 1000000) (disch := omega) only [WS, List.getElem_cons_zero, List.getElem_cons_succ, Option.isNone_some, Option.isNone_none, List.getD_cons_zero, List.getD_cons_succ, I.at, atL, atO, atP, evp, evs, retV, ↓reduceIte, Nat.reduceEqDiff, reduceCtorEq, AS]
    exact ⟨hB, Or.inr hbad⟩
theorem culletlaw13_asked7_spec (w : World) (s : Value) (l : List (El 16)) (h : Sl w s l) (hb : l.length ≤ 70368744175616) : CallV Try.prog 27 [.int .i64 7, s] w fun v w' => RowKit.Below w.heap.size w w' ∧
    ((∃ k, k ≤ 8 ∧ l.length = 2 ^ k ∧ ∃ sv m, v = .tuple #[sv, .int .i64 0] ∧ Ow w.heap.size w' sv m ∧ m.length = 2 ^ k ∧ co m = mP k (co l).c (2 ^ k)) ∨ (¬ (1 ≤ l.length ∧ l.length ≤ 256 ∧ l.length &&& (l.length - 1) = 0) ∧ v = .tuple #[.slice none 0 0, .int .i64 130])) := by
  refine run_culletlaw13_asked (by simp) ?_
  simp only [c_culletlaw13_asked, WS, List.getElem_cons_zero, List.getElem_cons_succ, Option.isNone_some, Option.isNone_none, List.getD_cons_zero, List.getD_cons_succ, I.at, atL, atO, atP, evp, evs, retV, ↓reduceIte, Nat.reduceEqDiff, reduceCtorEq, show decide ((7 : Int) = 6) = false from rfl, show decide ((7 : Int) = 7) = true from rfl]
  refine X_call0 ((lch_ToMonomials_spec w s l h hb).mono ?_)
  rintro _ w1 ⟨hB, ⟨k, hk, hlk, sv, m, rfl, om, ml, mc⟩ | ⟨hbad, rfl⟩⟩
  · simp (maxSteps := 1000000) (disch := omega) only [WS, List.getElem_cons_zero, List.getElem_cons_succ, Option.isNone_some, Option.isNone_none, List.getD_cons_zero, List.getD_cons_succ, I.at, atL, atO, atP, evp, evs, retV, ↓reduceIte, Nat.reduceEqDiff, reduceCtorEq, AS]
    exact ⟨hB, Or.inl ⟨k, hk, hlk, sv, m, rfl, om, ml, mc⟩⟩
  · simp (maxSteps := 1000000) (disch := omega) only [WS, List.getElem_cons_zero, List.getElem_cons_succ, Option.isNone_some, Option.isNone_none, List.getD_cons_zero, List.getD_cons_succ, I.at, atL, atO, atP, evp, evs, retV, ↓reduceIte, Nat.reduceEqDiff, reduceCtorEq, AS]
    exact ⟨hB, Or.inr hbad⟩
theorem culletlaw13_asked8_spec (w : World) (s : Value) (l : List (El 16)) (h : Sl w s l) (hb : l.length ≤ 70368744175616) : CallV Try.prog 27 [.int .i64 8, s] w fun v w' => RowKit.Below w.heap.size w w' ∧
    ((∃ k, k ≤ 8 ∧ l.length = 2 ^ k ∧ ∃ sv m, v = .tuple #[sv, .int .i64 0] ∧ Ow w.heap.size w' sv m ∧ m.length = 2 ^ k ∧ mP k (co m).c (2 ^ k) = co l) ∨ (¬ (1 ≤ l.length ∧ l.length ≤ 256 ∧ l.length &&& (l.length - 1) = 0) ∧ v = .tuple #[.slice none 0 0, .int .i64 130])) := by
  refine run_culletlaw13_asked (by simp) ?_
  simp only [c_culletlaw13_asked, WS, List.getElem_cons_zero, List.getElem_cons_succ, Option.isNone_some, Option.isNone_none, List.getD_cons_zero, List.getD_cons_succ, I.at, atL, atO, atP, evp, evs, retV, ↓reduceIte, Nat.reduceEqDiff, reduceCtorEq, show decide ((8 : Int) = 6) = false from rfl, show decide ((8 : Int) = 7) = false from rfl]
  refine X_call0 ((lch_FromMonomials_spec w s l h hb).mono ?_)
  rintro _ w1 ⟨hB, ⟨k, hk, hlk, sv, m, rfl, om, ml, mc⟩ | ⟨hbad, rfl⟩⟩
  · simp (maxSteps := 1000000) (disch := omega) only [WS, List.getElem_cons_zero, List.getElem_cons_succ, Option.isNone_some, Option.isNone_none, List.getD_cons_zero, List.getD_cons_succ, I.at, atL, atO, atP, evp, evs, retV, ↓reduceIte, Nat.reduceEqDiff, reduceCtorEq, AS]
    exact ⟨hB, Or.inl ⟨k, hk, hlk, sv, m, rfl, om, ml, mc⟩⟩
  · simp (maxSteps := 1000000) (disch := omega) only [WS, List.getElem_cons_zero, List.getElem_cons_succ, Option.isNone_some, Option.isNone_none, List.getD_cons_zero, List.getD_cons_succ, I.at, atL, atO, atP, evp, evs, retV, ↓reduceIte, Nat.reduceEqDiff, reduceCtorEq, AS]
    exact ⟨hB, Or.inr hbad⟩
section
variable {n_ : Nat} {u_ : List Nat} {rs_ : List RN} {es_ : List EN}
end
end Go.Proofs.Ytcnabolainmaeaa.Fw
