import Derived.Test.YtcdagkcchfibjaaProg
import Derived.Test.YtcdagkcchfibjaaFwTT
import Derived.Test.YtcdagkcchfibjaaSS04hT
import Derived.Test.YtcdagkcchfibjaaSS04zT
set_option linter.all false
set_option linter.unusedVariables false
set_option linter.unusedSimpArgs false
set_option maxRecDepth 100000
set_option maxHeartbeats 1000000
namespace Go.Proofs.Ytcdagkcchfibjaa.Fw
open Go Go.Fw Go.Proofs
attribute [local irreducible] stepI
def c_culletlaw04_neat : C := .seq (.ops [⟨0, (some 2), none, .mov (.c (.bool false)), []⟩]) (.seq (.ops [⟨0, (some 3), none, .mov (.t 0), []⟩, ⟨1, (some 4), none, .len (.t 3), []⟩, ⟨2, (some 5), none, .mov (.t 0), []⟩, ⟨3, (some 6), none, .call (.c (.func (.func 27) #[] #[])) [.t 5], []⟩, ⟨4, (some 7), none, .bin .add (.t 6) (.c (.int .i64 1)), []⟩, ⟨5, (some 8), none, .bin .eql (.t 4) (.t 7), []⟩, ⟨6, (some 2), none, .mov (.t 8), []⟩]) .ret)
attribute [irreducible] c_culletlaw04_neat
theorem run_culletlaw04_neat {args : List Value} {w : World} {K : Value → World → Prop} (hn : args.length ≤ 9) (h : WP Try.prog c_culletlaw04_neat (endQ [.t 2] K) (initT args) w) : CallV Try.prog 21 args w K :=
  call_of follows Try.func21 (by kernel_rfl) (by kernel_rfl) hn h
def c_culletlaw04_high : C := .seq (.ops [⟨0, (some 2), none, .mov (.c (.int .i64 0)), []⟩]) (.seq (.seq (.ops [⟨0, (some 4), none, .mov (.t 0), []⟩, ⟨1, (some 5), none, .len (.t 4), []⟩, ⟨2, (some 6), none, .bin .sub (.t 5) (.c (.int .i64 1)), []⟩, ⟨3, (some 3), none, .mov (.t 6), []⟩]) (.block 0 (.loop (.seq (.seq (.ops [⟨0, (some 7), none, .mov (.t 3), []⟩, ⟨1, (some 8), none, .bin .geq (.t 7) (.c (.int .i64 0)), []⟩]) (.ite (.t 8) .skip (.exit 0))) (.seq (.block 1 (.seq (.ops [⟨0, (some 11), none, .mov (.t 0), []⟩, ⟨1, (some 12), none, .mov (.t 3), []⟩, ⟨2, (some 13), none, .ixs 1 (.t 11) (.t 12), []⟩, ⟨3, (some 14), none, .ld (.t 13), []⟩, ⟨4, (some 15), none, .bin .neq (.t 14) (.c (.int .u16 0)), []⟩]) (.ite (.t 15) (.seq (.ops [⟨0, (some 16), none, .mov (.t 3), []⟩, ⟨1, (some 2), none, .mov (.t 16), []⟩]) .ret) .skip))) (.ops [⟨0, (some 9), none, .mov (.t 3), []⟩, ⟨1, (some 10), none, .bin .sub (.t 9) (.c (.int .i64 1)), []⟩, ⟨2, (some 3), none, .mov (.t 10), []⟩])))))) (.seq (.ops [⟨0, (some 2), none, .mov (.c (.int .i64 (-1))), []⟩]) .ret))
attribute [irreducible] c_culletlaw04_high
theorem run_culletlaw04_high {args : List Value} {w : World} {K : Value → World → Prop} (hn : args.length ≤ 17) (h : WP Try.prog c_culletlaw04_high (endQ [.t 2] K) (initT args) w) : CallV Try.prog 27 args w K :=
  call_of follows Try.func27 (by kernel_rfl) (by kernel_rfl) hn h
end Go.Proofs.Ytcdagkcchfibjaa.Fw
namespace Go.Proofs.Ytcdagkcchfibjaa.Fw
open Go Go.Fw
theorem culletlaw04_high_spec (w : World) (s : Value) (l : List (El 16)) (h : Sl w s l) (hb : l.length ≤ 70368744175616) : CallV Try.prog 27 [s] w fun v w' => v = .int .i64 ((tln l : Int) - 1) ∧ w' = w := by
  refine run_culletlaw04_high (by simp) ?_
  simp only [c_culletlaw04_high, WS, List.getElem_cons_zero, List.getElem_cons_succ, Option.isNone_some, Option.isNone_none, List.getD_cons_zero, List.getD_cons_succ, I.at, atL, atO, atP, evp, evs, retV, ↓reduceIte, Nat.reduceEqDiff, reduceCtorEq, h.Xlen, wrap_id (show -9223372036854775808 ≤ (l.length : Int) - 1 by omega) (show (l.length : Int) - 1 < 9223372036854775808 by omega)]
  have hle := tln_le l
  refine loop_of (fun t w' => w' = w ∧ t 0 = s ∧ ∃ k : Nat, t 3 = .int .i64 ((k : Int) - 1) ∧ tln l ≤ k ∧ k ≤ l.length) (fun t _ => (toI (t 3) + 1).toNat) ⟨rfl, rfl, l.length, rfl, hle, Nat.le_refl _⟩ ?_
  rintro t w' ⟨rfl, h0, k, h3, hk1, hk2⟩
  rcases Nat.eq_zero_or_pos k with rfl | hp
  · have : tln l = 0 := by omega
    simp only [WS, List.getElem_cons_zero, List.getElem_cons_succ, Option.isNone_some, Option.isNone_none, List.getD_cons_zero, List.getD_cons_succ, I.at, atL, atO, atP, evp, evs, retV, ↓reduceIte, Nat.reduceEqDiff, reduceCtorEq, h0, h3, show decide ((0 : Int) ≤ ((0 : Nat) : Int) - 1) = false from rfl, this]
    rfl
  · obtain ⟨k, rfl⟩ : ∃ j, k = j + 1 := ⟨k - 1, by omega⟩
    have e1 : ((k + 1 : Nat) : Int) - 1 = (k : Int) := by omega
    rw [e1] at h3
    have hkl : k < l.length := by omega
    by_cases hz : l[k] = 0
    · have d1 : decide (((l[k]).v.toNat : Int) = 0) = true := decide_eq_true ((el_zero _).mpr hz)
      simp only [WS, List.getElem_cons_zero, List.getElem_cons_succ, Option.isNone_some, Option.isNone_none, List.getD_cons_zero, List.getD_cons_succ, I.at, atL, atO, atP, evp, evs, retV, ↓reduceIte, Nat.reduceEqDiff, reduceCtorEq, h0, h3, show decide ((0 : Int) ≤ (k : Int)) = true by simp, h.Xix hkl, h.Xld hkl, cell_e16, d1, wrap_id (show -9223372036854775808 ≤ (k : Int) - 1 by omega) (show (k : Int) - 1 < 9223372036854775808 by omega), toI_int]
      refine ⟨⟨k, rfl, ?_, by omega⟩, by omega⟩
      rcases Nat.lt_or_ge k (tln l) with h1 | h1
      · exfalso
        refine tln_top l k (by omega) ?_
        rw [co_get l hkl]; exact hz
      · exact h1
    · have d1 : decide (((l[k]).v.toNat : Int) = 0) = false := decide_eq_false (fun e => hz ((el_zero _).mp e))
      have : tln l = k + 1 := by
        rcases Nat.lt_or_ge (tln l) (k + 1) with h1 | h1
        · exfalso
          have := tln_dg l k (by omega)
          rw [co_get l hkl] at this
          exact hz this
        · omega
      simp only [WS, List.getElem_cons_zero, List.getElem_cons_succ, Option.isNone_some, Option.isNone_none, List.getD_cons_zero, List.getD_cons_succ, I.at, atL, atO, atP, evp, evs, retV, ↓reduceIte, Nat.reduceEqDiff, reduceCtorEq, h0, h3, show decide ((0 : Int) ≤ (k : Int)) = true by simp, h.Xix hkl, h.Xld hkl, cell_e16, d1, this]
      simp only [WS, List.getElem_cons_zero, List.getElem_cons_succ, Option.isNone_some, Option.isNone_none, List.getD_cons_zero, List.getD_cons_succ, I.at, atL, atO, atP, evp, evs, retV, ↓reduceIte, Nat.reduceEqDiff, reduceCtorEq, e1]
theorem culletlaw04_neat_spec (w : World) (s : Value) (l : List (El 16)) (h : Sl w s l) (hb : l.length ≤ 70368744175616) : CallV Try.prog 21 [s] w fun v w' => v = .bool (decide (l.length = tln l)) ∧ w' = w := by
  have hle := tln_le l
  refine run_culletlaw04_neat (by simp) ?_
  simp only [c_culletlaw04_neat, WS, List.getElem_cons_zero, List.getElem_cons_succ, Option.isNone_some, Option.isNone_none, List.getD_cons_zero, List.getD_cons_succ, I.at, atL, atO, atP, evp, evs, retV, ↓reduceIte, Nat.reduceEqDiff, reduceCtorEq, h.Xlen]
  refine X_call0 ((culletlaw04_high_spec w s l h hb).mono ?_)
  rintro v w' ⟨rfl, rfl⟩
  have e1 : IntKind.i64.wrap ((tln l : Int) - 1 + 1) = (tln l : Int) := by rw [wrap_id (by omega) (by omega)]; omega
  simp only [WS, List.getElem_cons_zero, List.getElem_cons_succ, Option.isNone_some, Option.isNone_none, List.getD_cons_zero, List.getD_cons_succ, I.at, atL, atO, atP, evp, evs, retV, ↓reduceIte, Nat.reduceEqDiff, reduceCtorEq, e1]
  have : decide ((l.length : Int) = (tln l : Int)) = decide (l.length = tln l) := decide_eq_decide.2 (by omega)
  rw [this]
theorem tln_em16 (l : List (El 16)) : tln (l.map em16) = tln l := by rw [em16_map]
theorem tln_em8 : ∀ l : List (El 8), tln (l.map em8) = tln l
  | [] => rfl
  | x :: l => by
    rw [List.map_cons]
    unfold tln
    rw [tln_em8 l]
    simp only [em8_eq0]
end Go.Proofs.Ytcdagkcchfibjaa.Fw
