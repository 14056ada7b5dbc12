import Derived.Test.YtcdagkcchfibjaaGreatGfTW
import Derived.Test.YtcdagkcchfibjaaGreatProg
import Derived.Test.YtcdagkcchfibjaaGreatFwTW
import Derived.Test.YtcdagkcchfibjaaGreatSZBW
import Derived.Test.YtcdagkcchfibjaaGreatSZhW
import Derived.Test.YtcdagkcchfibjaaGreatGfEW
set_option linter.all false
/- Polynomials with as many zeros as coefficients; the vanishing polynomial of the first elements. Plain maths. -/
set_option linter.unusedVariables false
namespace Go.Fw
section
variable {n : Nat} [F : Fd n]
end
end Go.Fw

set_option linter.unusedVariables false
set_option linter.unusedSimpArgs false
set_option maxRecDepth 100000
set_option maxHeartbeats 1000000
namespace Go.Proofs.YtcdagkcchfibjaaGreat.Fw
open Go Go.Fw Go.Proofs
attribute [local irreducible] stepI
def c_culletref04_Trim : C := .seq (.ops [⟨0, (some 2), none, .mov (.c (.slice none 0 0)), []⟩]) (.seq (.ops [⟨0, (some 5), none, .mov (.t 0), []⟩, ⟨1, (some 6), none, .len (.t 5), []⟩, ⟨2, (some 3), none, .mov (.t 6), []⟩]) (.seq (.block 0 (.loop (.seq (.seq (.ops [⟨0, (some 7), none, .mov (.t 3), []⟩, ⟨1, (some 8), none, .bin .gtr (.t 7) (.c (.int .i64 0)), []⟩, ⟨2, (some 9), none, .mov (.t 8), []⟩, ⟨3, (some 10), (some (9, true)), .mov (.t 0), []⟩, ⟨4, (some 11), (some (9, true)), .mov (.t 3), []⟩, ⟨5, (some 12), (some (9, true)), .bin .sub (.t 11) (.c (.int .i64 1)), []⟩, ⟨6, (some 13), (some (9, true)), .ixs 1 (.t 10) (.t 12), []⟩, ⟨7, (some 14), (some (9, true)), .ld (.t 13), []⟩, ⟨8, (some 15), (some (9, true)), .bin .eql (.t 14) (.c (.int .u16 0)), []⟩, ⟨9, (some 16), none, .pick (.t 9) (.t 15) (.c (.bool false)), []⟩]) (.ite (.t 16) .skip (.exit 0))) (.block 1 (.ops [⟨0, (some 17), none, .mov (.t 3), []⟩, ⟨1, (some 18), none, .bin .sub (.t 17) (.c (.int .i64 1)), []⟩, ⟨2, (some 3), none, .mov (.t 18), []⟩]))))) (.seq (.ops [⟨0, (some 19), none, .mov (.t 3), []⟩, ⟨1, (some 20), none, .mks 32 2 [.int .u16 0] (.t 19) (.t 19), []⟩, ⟨2, (some 4), none, .mov (.t 20), []⟩]) (.seq (.ops [⟨0, (some 21), none, .mov (.t 4), []⟩, ⟨1, (some 22), none, .mov (.t 0), []⟩, ⟨2, (some 23), none, .cpy 1 (.t 21) (.t 22), []⟩]) (.seq (.ops [⟨0, (some 24), none, .mov (.t 4), []⟩, ⟨1, (some 2), none, .mov (.t 24), []⟩]) .ret)))))
attribute [irreducible] c_culletref04_Trim
theorem run_culletref04_Trim {args : List Value} {w : World} {K : Value → World → Prop} (hn : args.length ≤ 25) (h : WP Tryz.prog c_culletref04_Trim (endQ [.t 2] K) (initT args) w) : CallV Tryz.prog 34 args w K :=
  call_of follows Tryz.func34 (by kernel_rfl) (by kernel_rfl) hn h
def c_culletref04_Degree : C := .seq (.ops [⟨0, (some 2), none, .mov (.c (.int .i64 0)), []⟩]) (.seq (.seq (.ops [⟨0, (some 4), none, .mov (.t 0), []⟩, ⟨1, (some 5), none, .len (.t 4), []⟩, ⟨2, (some 6), none, .bin .sub (.t 5) (.c (.int .i64 1)), []⟩, ⟨3, (some 3), none, .mov (.t 6), []⟩]) (.block 0 (.loop (.seq (.seq (.ops [⟨0, (some 7), none, .mov (.t 3), []⟩, ⟨1, (some 8), none, .bin .geq (.t 7) (.c (.int .i64 0)), []⟩]) (.ite (.t 8) .skip (.exit 0))) (.seq (.block 1 (.seq (.ops [⟨0, (some 11), none, .mov (.t 0), []⟩, ⟨1, (some 12), none, .mov (.t 3), []⟩, ⟨2, (some 13), none, .ixs 1 (.t 11) (.t 12), []⟩, ⟨3, (some 14), none, .ld (.t 13), []⟩, ⟨4, (some 15), none, .bin .neq (.t 14) (.c (.int .u16 0)), []⟩]) (.ite (.t 15) (.seq (.ops [⟨0, (some 16), none, .mov (.t 3), []⟩, ⟨1, (some 2), none, .mov (.t 16), []⟩]) .ret) .skip))) (.ops [⟨0, (some 9), none, .mov (.t 3), []⟩, ⟨1, (some 10), none, .bin .sub (.t 9) (.c (.int .i64 1)), []⟩, ⟨2, (some 3), none, .mov (.t 10), []⟩])))))) (.seq (.ops [⟨0, (some 2), none, .mov (.c (.int .i64 (-1))), []⟩]) .ret))
attribute [irreducible] c_culletref04_Degree
theorem run_culletref04_Degree {args : List Value} {w : World} {K : Value → World → Prop} (hn : args.length ≤ 17) (h : WP Tryz.prog c_culletref04_Degree (endQ [.t 2] K) (initT args) w) : CallV Tryz.prog 36 args w K :=
  call_of follows Tryz.func36 (by kernel_rfl) (by kernel_rfl) hn h
def c_culletref04_Add : C := .seq (.ops [⟨0, (some 4), none, .mov (.c (.slice none 0 0)), []⟩]) (.seq (.ops [⟨0, (some 8), none, .mov (.t 0), []⟩, ⟨1, (some 9), none, .len (.t 8), []⟩, ⟨2, (some 5), none, .mov (.t 9), []⟩]) (.seq (.seq (.ops [⟨0, (some 10), none, .mov (.t 1), []⟩, ⟨1, (some 11), none, .len (.t 10), []⟩, ⟨2, (some 12), none, .mov (.t 5), []⟩, ⟨3, (some 13), none, .bin .gtr (.t 11) (.t 12), []⟩]) (.ite (.t 13) (.ops [⟨0, (some 14), none, .mov (.t 1), []⟩, ⟨1, (some 15), none, .len (.t 14), []⟩, ⟨2, (some 5), none, .mov (.t 15), []⟩]) .skip)) (.seq (.ops [⟨0, (some 16), none, .mov (.t 5), []⟩, ⟨1, (some 17), none, .mks 32 2 [.int .u16 0] (.t 16) (.t 16), []⟩, ⟨2, (some 6), none, .mov (.t 17), []⟩]) (.seq (.ops [⟨0, (some 18), none, .mov (.t 6), []⟩, ⟨1, (some 19), none, .mov (.t 0), []⟩, ⟨2, (some 20), none, .cpy 1 (.t 18) (.t 19), []⟩]) (.seq (.seq (.ops [⟨0, (some 7), none, .mov (.c (.int .i64 0)), []⟩]) (.block 0 (.loop (.seq (.seq (.ops [⟨0, (some 21), none, .mov (.t 7), []⟩, ⟨1, (some 22), none, .mov (.t 1), []⟩, ⟨2, (some 23), none, .len (.t 22), []⟩, ⟨3, (some 24), none, .bin .lss (.t 21) (.t 23), []⟩]) (.ite (.t 24) .skip (.exit 0))) (.seq (.block 1 (.dops [⟨0, (some 27), none, .mov (.t 6), []⟩, ⟨1, (some 28), none, .mov (.t 7), []⟩, ⟨2, (some 29), none, .mov (.t 6), []⟩, ⟨3, (some 30), none, .mov (.t 7), []⟩, ⟨4, (some 31), none, .ixs 1 (.t 29) (.t 30), []⟩, ⟨5, (some 32), none, .ld (.t 31), []⟩, ⟨6, (some 33), none, .mov (.t 1), []⟩, ⟨7, (some 34), none, .mov (.t 7), []⟩, ⟨8, (some 35), none, .ixs 1 (.t 33) (.t 34), []⟩, ⟨9, (some 36), none, .ld (.t 35), []⟩, ⟨10, (some 37), none, .bin .xor (.t 32) (.t 36), []⟩, ⟨11, (some 38), none, .ixs 1 (.t 27) (.t 28), []⟩, ⟨12, none, none, .st (.t 38) (.t 37), []⟩])) (.ops [⟨0, (some 25), none, .mov (.t 7), []⟩, ⟨1, (some 26), none, .bin .add (.t 25) (.c (.int .i64 1)), []⟩, ⟨2, (some 7), none, .mov (.t 26), []⟩])))))) (.seq (.ops [⟨0, (some 39), none, .mov (.t 6), []⟩, ⟨1, (some 40), none, .call (.c (.func (.func 34) #[] #[])) [.t 39], []⟩, ⟨2, (some 4), none, .mov (.t 40), []⟩]) .ret))))))
attribute [irreducible] c_culletref04_Add
theorem run_culletref04_Add {args : List Value} {w : World} {K : Value → World → Prop} (hn : args.length ≤ 41) (h : WP Tryz.prog c_culletref04_Add (endQ [.t 4] K) (initT args) w) : CallV Tryz.prog 38 args w K :=
  call_of follows Tryz.func38 (by kernel_rfl) (by kernel_rfl) hn h
def c_culletref04_Derivative : C := .seq (.ops [⟨0, (some 2), none, .mov (.c (.slice none 0 0)), []⟩]) (.seq (.ops [⟨0, (some 5), none, .mov (.t 0), []⟩, ⟨1, (some 6), none, .len (.t 5), []⟩, ⟨2, (some 7), none, .mks 32 2 [.int .u16 0] (.t 6) (.t 6), []⟩, ⟨3, (some 3), none, .mov (.t 7), []⟩]) (.seq (.seq (.ops [⟨0, (some 4), none, .mov (.c (.int .i64 0)), []⟩]) (.block 0 (.loop (.seq (.seq (.ops [⟨0, (some 8), none, .mov (.t 4), []⟩, ⟨1, (some 9), none, .bin .add (.t 8) (.c (.int .i64 1)), []⟩, ⟨2, (some 10), none, .mov (.t 0), []⟩, ⟨3, (some 11), none, .len (.t 10), []⟩, ⟨4, (some 12), none, .bin .lss (.t 9) (.t 11), []⟩]) (.ite (.t 12) .skip (.exit 0))) (.seq (.block 1 (.ops [⟨0, (some 15), none, .mov (.t 3), []⟩, ⟨1, (some 16), none, .mov (.t 4), []⟩, ⟨2, (some 17), none, .mov (.t 0), []⟩, ⟨3, (some 18), none, .mov (.t 4), []⟩, ⟨4, (some 19), none, .bin .add (.t 18) (.c (.int .i64 1)), []⟩, ⟨5, (some 20), none, .ixs 1 (.t 17) (.t 19), []⟩, ⟨6, (some 21), none, .ld (.t 20), []⟩, ⟨7, (some 22), none, .ixs 1 (.t 15) (.t 16), []⟩, ⟨8, none, none, .st (.t 22) (.t 21), []⟩])) (.ops [⟨0, (some 13), none, .mov (.t 4), []⟩, ⟨1, (some 14), none, .bin .add (.t 13) (.c (.int .i64 2)), []⟩, ⟨2, (some 4), none, .mov (.t 14), []⟩])))))) (.seq (.ops [⟨0, (some 23), none, .mov (.t 3), []⟩, ⟨1, (some 24), none, .call (.c (.func (.func 34) #[] #[])) [.t 23], []⟩, ⟨2, (some 2), none, .mov (.t 24), []⟩]) .ret)))
attribute [irreducible] c_culletref04_Derivative
theorem run_culletref04_Derivative {args : List Value} {w : World} {K : Value → World → Prop} (hn : args.length ≤ 25) (h : WP Tryz.prog c_culletref04_Derivative (endQ [.t 2] K) (initT args) w) : CallV Tryz.prog 42 args w K :=
  call_of follows Tryz.func42 (by kernel_rfl) (by kernel_rfl) hn h
end Go.Proofs.YtcdagkcchfibjaaGreat.Fw
namespace Go.Proofs.YtcdagkcchfibjaaGreat.Fw
open Go Go.Fw
theorem culletref04_Trim_spec (w : World) (s : Value) (l : List (El 16)) (h : Sl w s l) (hb : l.length ≤ 70368744175616) : CallV Tryz.prog 34 [s] w fun v w' => Ow w.heap.size w' v (tr l) ∧ RowKit.Below w.heap.size w w' := by
  have hle := tln_le l
  refine run_culletref04_Trim (by simp) ?_
  simp only [c_culletref04_Trim, WS, List.getElem_cons_zero, List.getElem_cons_succ, Option.isNone_some, Option.isNone_none, List.getD_cons_zero, List.getD_cons_succ, I.at, atL, atO, atP, evp, evs, retV, ↓reduceIte, Nat.reduceEqDiff, reduceCtorEq, h.Xlen]
  refine loop_of (fun t w' => w' = w ∧ t 0 = s ∧ ∃ k : Nat, t 3 = .int .i64 (k : Int) ∧ tln l ≤ k ∧ k ≤ l.length) (fun t _ => (toI (t 3)).toNat) ⟨rfl, by simp only [WS, List.getElem_cons_zero, List.getElem_cons_succ, Option.isNone_some, Option.isNone_none, List.getD_cons_zero, List.getD_cons_succ, I.at, atL, atO, atP, evp, evs, retV, ↓reduceIte, Nat.reduceEqDiff, reduceCtorEq], l.length, rfl, hle, Nat.le_refl _⟩ ?_
  rintro t w' ⟨rfl, t0, k, t3, hk, hkl⟩
  have fin : ∀ (hk' : k = tln l), True := fun _ => trivial
  by_cases hk0 : k = 0
  · subst hk0
    have hz : tln l = 0 := by omega
    have htr : tr l = [] := List.eq_nil_of_length_eq_zero (by rw [tr_len, hz])
    simp (maxSteps := 1000000) (disch := omega) only [WS, List.getElem_cons_zero, List.getElem_cons_succ, Option.isNone_some, Option.isNone_none, List.getD_cons_zero, List.getD_cons_succ, I.at, atL, atO, atP, evp, evs, retV, ↓reduceIte, Nat.reduceEqDiff, reduceCtorEq, AS, t0, t3, show decide ((0 : Int) < ((0 : Nat) : Int)) = false from rfl]
    refine X_mks (x := (0 : El 16)) (n := 0) (by simp only [maxBytes]; omega) (by omega) fun p w1 ho hB => ?_
    simp (maxSteps := 1000000) (disch := omega) only [WS, List.getElem_cons_zero, List.getElem_cons_succ, Option.isNone_some, Option.isNone_none, List.getD_cons_zero, List.getD_cons_succ, I.at, atL, atO, atP, evp, evs, retV, ↓reduceIte, Nat.reduceEqDiff, reduceCtorEq, AS, t0, t3]
    refine ho.Xcpy (h.up hB) fun w2 ho2 hg => ?_
    simp (maxSteps := 1000000) (disch := omega) only [WS, List.getElem_cons_zero, List.getElem_cons_succ, Option.isNone_some, Option.isNone_none, List.getD_cons_zero, List.getD_cons_succ, I.at, atL, atO, atP, evp, evs, retV, ↓reduceIte, Nat.reduceEqDiff, reduceCtorEq, AS]
    refine ⟨?_, hB.grown hg hB.size fun b hb => (ho.blk b hb).1⟩
    rw [htr]
    simpa using ho2
  have k1 : k - 1 < l.length := by omega
  by_cases hz : l[k - 1] = 0
  · have d1 : decide ((l[k - 1].v.toNat : Int) = 0) = true := decide_eq_true ((el_zero _).mpr hz)
    have hne : tln l ≠ k := fun e => tln_top l (k - 1) (by omega) (by rw [co_get l k1]; exact hz)
    simp (maxSteps := 1000000) (disch := omega) only [WS, List.getElem_cons_zero, List.getElem_cons_succ, Option.isNone_some, Option.isNone_none, List.getD_cons_zero, List.getD_cons_succ, I.at, atL, atO, atP, evp, evs, retV, ↓reduceIte, Nat.reduceEqDiff, reduceCtorEq, AS, t0, t3, h.Xix k1, h.Xld k1, cell_e16, d1]
    exact ⟨⟨k - 1, rfl, by omega, by omega⟩, by omega⟩
  · have d1 : decide ((l[k - 1].v.toNat : Int) = 0) = false := decide_eq_false (fun e => hz ((el_zero _).mp e))
    have hkt : tln l = k := by
      rcases Nat.lt_or_ge (tln l) k with hlt | hge
      · exact absurd (tln_dg l (k - 1) (by omega)) (by rw [co_get l k1]; exact hz)
      · omega
    simp (maxSteps := 1000000) (disch := omega) only [WS, List.getElem_cons_zero, List.getElem_cons_succ, Option.isNone_some, Option.isNone_none, List.getD_cons_zero, List.getD_cons_succ, I.at, atL, atO, atP, evp, evs, retV, ↓reduceIte, Nat.reduceEqDiff, reduceCtorEq, AS, t0, t3, h.Xix k1, h.Xld k1, cell_e16, d1]
    refine X_mks (x := (0 : El 16)) (n := k) (by simp only [maxBytes]; omega) (by omega) fun p w1 ho hB => ?_
    simp (maxSteps := 1000000) (disch := omega) only [WS, List.getElem_cons_zero, List.getElem_cons_succ, Option.isNone_some, Option.isNone_none, List.getD_cons_zero, List.getD_cons_succ, I.at, atL, atO, atP, evp, evs, retV, ↓reduceIte, Nat.reduceEqDiff, reduceCtorEq, AS, t0, t3]
    refine ho.Xcpy (h.up hB) fun w2 ho2 hg => ?_
    simp (maxSteps := 1000000) (disch := omega) only [WS, List.getElem_cons_zero, List.getElem_cons_succ, Option.isNone_some, Option.isNone_none, List.getD_cons_zero, List.getD_cons_succ, I.at, atL, atO, atP, evp, evs, retV, ↓reduceIte, Nat.reduceEqDiff, reduceCtorEq, AS]
    refine ⟨?_, hB.grown hg hB.size fun b hb => (ho.blk b hb).1⟩
    rw [List.length_replicate, List.drop_of_length_le (by simp; omega), List.append_nil, ← hkt] at ho2
    exact ho2
theorem culletref04_Degree_spec (w : World) (s : Value) (l : List (El 16)) (h : Sl w s l) (hb : l.length ≤ 70368744175616) : CallV Tryz.prog 36 [s] w fun v w' => v = .int .i64 ((tln l : Int) - 1) ∧ w' = w := by
  have hle := tln_le l
  refine run_culletref04_Degree (by simp) ?_
  have e0 : IntKind.i64.wrap ((l.length : Int) - 1) = (l.length : Int) - 1 := wrap_id (by omega) (by omega)
  simp only [c_culletref04_Degree, WS, List.getElem_cons_zero, List.getElem_cons_succ, Option.isNone_some, Option.isNone_none, List.getD_cons_zero, List.getD_cons_succ, I.at, atL, atO, atP, evp, evs, retV, ↓reduceIte, Nat.reduceEqDiff, reduceCtorEq, h.Xlen, e0]
  refine loop_of (fun t w' => w' = w ∧ t 0 = s ∧ ∃ k : Nat, t 3 = .int .i64 ((k : Int) - 1) ∧ tln l ≤ k ∧ k ≤ l.length) (fun t _ => (toI (t 3) + 1).toNat) ⟨rfl, by simp only [WS, List.getElem_cons_zero, List.getElem_cons_succ, Option.isNone_some, Option.isNone_none, List.getD_cons_zero, List.getD_cons_succ, I.at, atL, atO, atP, evp, evs, retV, ↓reduceIte, Nat.reduceEqDiff, reduceCtorEq], l.length, rfl, hle, Nat.le_refl _⟩ ?_
  rintro t w' ⟨rfl, t0, k, t3, hk, hkl⟩
  cases k with
  | zero =>
    have hz : tln l = 0 := by omega
    simp only [WS, List.getElem_cons_zero, List.getElem_cons_succ, Option.isNone_some, Option.isNone_none, List.getD_cons_zero, List.getD_cons_succ, I.at, atL, atO, atP, evp, evs, retV, ↓reduceIte, Nat.reduceEqDiff, reduceCtorEq, t0, t3, show decide ((0 : Int) ≤ ((0 : Nat) : Int) - 1) = false from rfl, hz]
    simp
  | succ k =>
    rw [show ((k + 1 : Nat) : Int) - 1 = (k : Int) by omega] at t3
    have k1 : k < l.length := by omega
    have e1 : IntKind.i64.wrap ((k : Int) - 1) = (k : Int) - 1 := wrap_id (by omega) (by omega)
    by_cases hz : l[k] = 0
    · have d1 : (!decide ((l[k].v.toNat : Int) = 0)) = false := by rw [decide_eq_true ((el_zero _).mpr hz)]; rfl
      have hne : tln l ≠ k + 1 := fun e => tln_top l k e (by rw [co_get l k1]; exact hz)
      simp only [WS, List.getElem_cons_zero, List.getElem_cons_succ, Option.isNone_some, Option.isNone_none, List.getD_cons_zero, List.getD_cons_succ, I.at, atL, atO, atP, evp, evs, retV, ↓reduceIte, Nat.reduceEqDiff, reduceCtorEq, t0, t3, show decide ((0 : Int) ≤ (k : Int)) = true from decide_eq_true (by omega), h.Xix k1, h.Xld k1, cell_e16, d1, e1, toI_int]
      exact ⟨⟨k, rfl, by omega, by omega⟩, by omega⟩
    · have d1 : (!decide ((l[k].v.toNat : Int) = 0)) = true := by rw [decide_eq_false (fun e => hz ((el_zero _).mp e))]; rfl
      have hkt : tln l = k + 1 := by
        rcases Nat.lt_or_ge (tln l) (k + 1) with hlt | hge
        · exact absurd (tln_dg l k (by omega)) (by rw [co_get l k1]; exact hz)
        · omega
      simp only [WS, List.getElem_cons_zero, List.getElem_cons_succ, Option.isNone_some, Option.isNone_none, List.getD_cons_zero, List.getD_cons_succ, I.at, atL, atO, atP, evp, evs, retV, ↓reduceIte, Nat.reduceEqDiff, reduceCtorEq, t0, t3, show decide ((0 : Int) ≤ (k : Int)) = true from decide_eq_true (by omega), h.Xix k1, h.Xld k1, cell_e16, d1]
      rw [hkt, show ((k + 1 : Nat) : Int) - 1 = (k : Int) by omega]
theorem culletref04_Add_spec (w : World) (s1 s2 : Value) (l1 l2 : List (El 16)) (h1 : Sl w s1 l1) (h2 : Sl w s2 l2) (hb1 : l1.length ≤ 70368744175616) (hb2 : l2.length ≤ 70368744175616) :
    CallV Tryz.prog 38 [s1, s2] w fun v w' => ∃ l, Ow w.heap.size w' v l ∧ tr l = l ∧ co l = co l1 + co l2 ∧ l.length ≤ max l1.length l2.length ∧ RowKit.Below w.heap.size w w' := by
  refine run_culletref04_Add (by simp) ?_
  unfold c_culletref04_Add
  obtain ⟨N, hN⟩ : ∃ N, N = max l1.length l2.length := ⟨_, rfl⟩
  have main : ∀ t : T, t 0 = s1 → t 1 = s2 → t 5 = .int .i64 (N : Int) → True := fun _ _ _ _ => trivial
  rw [lZ35]
  refine WP_cut (fun t w' => w' = w ∧ t 0 = s1 ∧ t 1 = s2) (by simp only [WS, List.getElem_cons_zero, List.getElem_cons_succ, Option.isNone_some, Option.isNone_none, List.getD_cons_zero, List.getD_cons_succ, I.at, atL, atO, atP, evp, evs, retV, ↓reduceIte, Nat.reduceEqDiff, reduceCtorEq]) ?_
  rintro t w' ⟨rfl, t0, t1⟩
  rw [lZ1, lZ35]
  refine WP_cut (fun t w2 => w2 = w' ∧ t 0 = s1 ∧ t 1 = s2 ∧ t 5 = .int .i64 (l1.length : Int)) ?_ ?_
  · simp (maxSteps := 1000000) (disch := omega) only [WS, List.getElem_cons_zero, List.getElem_cons_succ, Option.isNone_some, Option.isNone_none, List.getD_cons_zero, List.getD_cons_succ, I.at, atL, atO, atP, evp, evs, retV, ↓reduceIte, Nat.reduceEqDiff, reduceCtorEq, AS, t0, t1, h1.Xlen]
  clear t0 t1
  rintro t w' ⟨rfl, t0, t1, t5⟩
  rw [lZ1, lZ35]
  refine WP_cut (fun t w2 => w2 = w' ∧ t 0 = s1 ∧ t 1 = s2 ∧ t 5 = .int .i64 (N : Int)) ?_ ?_
  · by_cases hlt : l1.length < l2.length
    · simp (maxSteps := 1000000) (disch := omega) only [WS, List.getElem_cons_zero, List.getElem_cons_succ, Option.isNone_some, Option.isNone_none, List.getD_cons_zero, List.getD_cons_succ, I.at, atL, atO, atP, evp, evs, retV, ↓reduceIte, Nat.reduceEqDiff, reduceCtorEq, AS, t0, t1, t5, h2.Xlen]
      rw [hN, Nat.max_eq_right (by omega)]
    · simp (maxSteps := 1000000) (disch := omega) only [WS, List.getElem_cons_zero, List.getElem_cons_succ, Option.isNone_some, Option.isNone_none, List.getD_cons_zero, List.getD_cons_succ, I.at, atL, atO, atP, evp, evs, retV, ↓reduceIte, Nat.reduceEqDiff, reduceCtorEq, AS, t0, t1, t5, h2.Xlen]
      rw [hN, Nat.max_eq_left (by omega)]
  clear t0 t1 t5
  rintro t w' ⟨rfl, t0, t1, t5⟩
  have hN1 : l1.length ≤ N := by omega
  have hN2 : l2.length ≤ N := by omega
  simp (maxSteps := 1000000) (disch := omega) only [WS, List.getElem_cons_zero, List.getElem_cons_succ, Option.isNone_some, Option.isNone_none, List.getD_cons_zero, List.getD_cons_succ, I.at, atL, atO, atP, evp, evs, retV, ↓reduceIte, Nat.reduceEqDiff, reduceCtorEq, AS, t0, t1, t5]
  refine X_mks (x := (0 : El 16)) (by simp only [maxBytes]; omega) (by omega) fun p w1 ho hB => ?_
  simp (maxSteps := 1000000) (disch := omega) only [WS, List.getElem_cons_zero, List.getElem_cons_succ, Option.isNone_some, Option.isNone_none, List.getD_cons_zero, List.getD_cons_succ, I.at, atL, atO, atP, evp, evs, retV, ↓reduceIte, Nat.reduceEqDiff, reduceCtorEq, AS, t0, t1, t5]
  refine ho.Xcpy (h1.up hB) fun w2 ho2 hg => ?_
  have B := hB.grown hg hB.size fun b hb => (ho.blk b hb).1
  have e1 : l1.take (List.replicate N (0 : El 16)).length ++ (List.replicate N (0 : El 16)).drop l1.length = l1 ++ List.replicate (N - l1.length) 0 := by rw [List.length_replicate, List.take_of_length_le hN1, List.drop_replicate]
  rw [e1] at ho2
  have hc2 : co (l1 ++ List.replicate (N - l1.length) (0 : El 16)) = co l1 := co_append_zeros _ _
  have hl2 : (l1 ++ List.replicate (N - l1.length) (0 : El 16)).length = N := by rw [List.length_append, List.length_replicate]; omega
  generalize l1 ++ List.replicate (N - l1.length) (0 : El 16) = m0 at ho2 hc2 hl2
  simp (maxSteps := 1000000) (disch := omega) only [WS, List.getElem_cons_zero, List.getElem_cons_succ, Option.isNone_some, Option.isNone_none, List.getD_cons_zero, List.getD_cons_succ, I.at, atL, atO, atP, evp, evs, retV, ↓reduceIte, Nat.reduceEqDiff, reduceCtorEq, AS, t0, t1, t5]
  refine loop_of (fun t w2 => t 1 = s2 ∧ t 6 = p ∧ RowKit.Below w'.heap.size w' w2 ∧ ∃ (j : Nat) (m : List (El 16)), t 7 = .int .i64 (j : Int) ∧ j ≤ l2.length ∧ Ow w'.heap.size w2 p m ∧ m.length = N ∧ ∀ k, (co m).c k = (co l1).c k + (if k < j then (co l2).c k else 0)) (fun t _ => l2.length - (toI (t 7)).toNat)
    ⟨by simp only [WS, List.getElem_cons_zero, List.getElem_cons_succ, Option.isNone_some, Option.isNone_none, List.getD_cons_zero, List.getD_cons_succ, I.at, atL, atO, atP, evp, evs, retV, ↓reduceIte, Nat.reduceEqDiff, reduceCtorEq]; exact t1, by simp only [WS, List.getElem_cons_zero, List.getElem_cons_succ, Option.isNone_some, Option.isNone_none, List.getD_cons_zero, List.getD_cons_succ, I.at, atL, atO, atP, evp, evs, retV, ↓reduceIte, Nat.reduceEqDiff, reduceCtorEq], B, 0, m0, rfl, by omega, ho2, hl2, fun k => by rw [hc2, if_neg (by omega), El.add_zero]⟩ ?_
  clear B ho ho2 hg t0 t1 t5 hB
  rintro t w3 ⟨t1, t6, B, j, m, t7, hj, om, ml, mc⟩
  by_cases hjl : j < l2.length
  · have jm : j < m.length := by omega
    have g2 := h2.up B
    simp (maxSteps := 1000000) (disch := omega) only [WS, List.getElem_cons_zero, List.getElem_cons_succ, Option.isNone_some, Option.isNone_none, List.getD_cons_zero, List.getD_cons_succ, I.at, atL, atO, atP, evp, evs, retV, ↓reduceIte, Nat.reduceEqDiff, reduceCtorEq, AS, t1, t6, t7, g2.Xlen]
    refine WP_dops ?_
    have omd := om.sl.drew
    have g2d := g2.drew
    simp (maxSteps := 1000000) (disch := omega) only [ES, List.mem_cons, List.not_mem_nil, implies_true, forall_const, WS, List.getElem_cons_zero, List.getElem_cons_succ, Option.isNone_some, Option.isNone_none, List.getD_cons_zero, List.getD_cons_succ, I.at, atL, atO, atP, evp, evs, retV, ↓reduceIte, Nat.reduceEqDiff, reduceCtorEq, AS, t1, t6, t7, omd.Eix jm, omd.Eld jm, g2d.Eix hjl, g2d.Eld hjl, cell_e16, xor16]
    refine Ow.Est om.drew jm (m[j] + l2[j]) fun w4 om4 hg4 => ?_
    simp (maxSteps := 1000000) (disch := omega) only [ES, List.mem_cons, List.not_mem_nil, implies_true, forall_const, WS, List.getElem_cons_zero, List.getElem_cons_succ, Option.isNone_some, Option.isNone_none, List.getD_cons_zero, List.getD_cons_succ, I.at, atL, atO, atP, evp, evs, retV, ↓reduceIte, Nat.reduceEqDiff, reduceCtorEq, AS, t1, t6, t7]
    refine ⟨⟨B.grown (grown_of_drew hg4) B.size fun b hb => (om.blk b hb).1, j + 1, _, rfl, by omega, om4, by simp [ml], fun k => ?_⟩, by omega⟩
    rw [co_set _ jm, mc k]
    by_cases hk : k = j
    · subst hk
      rw [if_pos rfl, if_pos (by omega), ← co_get m jm, mc k, if_neg (by omega), El.add_zero, co_get l2 hjl]
    · rw [if_neg hk]
      congr 1
      by_cases hkj : k < j
      · rw [if_pos hkj, if_pos (by omega)]
      · rw [if_neg hkj, if_neg (by omega)]
  · obtain rfl : j = l2.length := by omega
    have hm : co m = co l1 + co l2 := Ps.ext fun k => by
      rw [mc k, Ps.add_c]
      congr 1
      by_cases hk : k < l2.length
      · rw [if_pos hk]
      · rw [if_neg hk, co_dg l2 k (by omega)]
    simp (maxSteps := 1000000) (disch := omega) only [WS, List.getElem_cons_zero, List.getElem_cons_succ, Option.isNone_some, Option.isNone_none, List.getD_cons_zero, List.getD_cons_succ, I.at, atL, atO, atP, evp, evs, retV, ↓reduceIte, Nat.reduceEqDiff, reduceCtorEq, AS, t1, t6, t7, (h2.up B).Xlen]
    refine X_call0 ((culletref04_Trim_spec w3 p m om.sl (by omega)).mono ?_)
    rintro v w4 ⟨o4, hB⟩
    simp (maxSteps := 1000000) (disch := omega) only [WS, List.getElem_cons_zero, List.getElem_cons_succ, Option.isNone_some, Option.isNone_none, List.getD_cons_zero, List.getD_cons_succ, I.at, atL, atO, atP, evp, evs, retV, ↓reduceIte, Nat.reduceEqDiff, reduceCtorEq, AS]
    exact ⟨tr m, o4.mono B.size, tr_tr m, by rw [tr_co, hm], by rw [tr_len]; have := tln_le m; omega, B.trans (hB.mono B.size)⟩
theorem culletref04_Derivative_spec (w : World) (s : Value) (l : List (El 16)) (h : Sl w s l) (hb : l.length ≤ 70368744175616) :
    CallV Tryz.prog 42 [s] w fun v w' => ∃ m, Ow w.heap.size w' v m ∧ tr m = m ∧ co m = (co l).D ∧ RowKit.Below w.heap.size w w' := by
  refine run_culletref04_Derivative (by simp) ?_
  simp only [c_culletref04_Derivative, WS, List.getElem_cons_zero, List.getElem_cons_succ, Option.isNone_some, Option.isNone_none, List.getD_cons_zero, List.getD_cons_succ, I.at, atL, atO, atP, evp, evs, retV, ↓reduceIte, Nat.reduceEqDiff, reduceCtorEq]
  simp (maxSteps := 1000000) (disch := omega) only [WS, List.getElem_cons_zero, List.getElem_cons_succ, Option.isNone_some, Option.isNone_none, List.getD_cons_zero, List.getD_cons_succ, I.at, atL, atO, atP, evp, evs, retV, ↓reduceIte, Nat.reduceEqDiff, reduceCtorEq, AS, h.Xlen]
  refine X_mks (x := (0 : El 16)) (by simp only [maxBytes]; omega) (by omega) fun p w1 ho hB => ?_
  simp (maxSteps := 1000000) (disch := omega) only [WS, List.getElem_cons_zero, List.getElem_cons_succ, Option.isNone_some, Option.isNone_none, List.getD_cons_zero, List.getD_cons_succ, I.at, atL, atO, atP, evp, evs, retV, ↓reduceIte, Nat.reduceEqDiff, reduceCtorEq, AS]
  refine loop_of (fun t w' => t 0 = s ∧ t 3 = p ∧ RowKit.Below w.heap.size w w' ∧ ∃ (j : Nat) (m : List (El 16)), t 4 = .int .i64 ((2 * j : Nat) : Int) ∧ 2 * j ≤ l.length + 1 ∧ Ow w.heap.size w' p m ∧ m.length = l.length ∧ ∀ k, (co m).c k = if k < 2 * j then (co l).D.c k else 0) (fun t _ => l.length + 2 - (toI (t 4)).toNat)
    ⟨by simp only [WS, List.getElem_cons_zero, List.getElem_cons_succ, Option.isNone_some, Option.isNone_none, List.getD_cons_zero, List.getD_cons_succ, I.at, atL, atO, atP, evp, evs, retV, ↓reduceIte, Nat.reduceEqDiff, reduceCtorEq], by simp only [WS, List.getElem_cons_zero, List.getElem_cons_succ, Option.isNone_some, Option.isNone_none, List.getD_cons_zero, List.getD_cons_succ, I.at, atL, atO, atP, evp, evs, retV, ↓reduceIte, Nat.reduceEqDiff, reduceCtorEq], hB, 0, _, rfl, by omega, ho, List.length_replicate .., fun k => by rw [co_replicate, if_neg (by omega)]; rfl⟩ ?_
  clear hB ho
  rintro t w2 ⟨t0, t3, B, j, m, t4, hj, om, ml, mc⟩
  by_cases hlt : 2 * j + 1 < l.length
  · have jm : 2 * j < m.length := by omega
    have g := h.up B
    have e2 : IntKind.i64.wrap (((2 * j : Nat) : Int) + 2) = ((2 * (j + 1) : Nat) : Int) := by rw [wrap_id (by omega) (by omega)]; omega
    simp (maxSteps := 1000000) (disch := omega) only [WS, List.getElem_cons_zero, List.getElem_cons_succ, Option.isNone_some, Option.isNone_none, List.getD_cons_zero, List.getD_cons_succ, I.at, atL, atO, atP, evp, evs, retV, ↓reduceIte, Nat.reduceEqDiff, reduceCtorEq, AS, t0, t3, t4, g.Xlen, g.Xix hlt, g.Xld hlt, om.sl.Xix jm, cell_e16]
    refine om.Xst jm l[2 * j + 1] fun w3 om3 hg => ?_
    simp (maxSteps := 1000000) only [WS, List.getElem_cons_zero, List.getElem_cons_succ, Option.isNone_some, Option.isNone_none, List.getD_cons_zero, List.getD_cons_succ, I.at, atL, atO, atP, evp, evs, retV, ↓reduceIte, Nat.reduceEqDiff, reduceCtorEq, t0, t3, t4, e2, toI_int]
    refine ⟨⟨B.grown hg B.size fun b hb => (om.blk b hb).1, j + 1, _, rfl, by omega, om3, by simp [ml], fun k => ?_⟩, by omega⟩
    rw [co_set _ jm, mc k]
    by_cases hk : k = 2 * j
    · subst hk
      rw [if_pos rfl, if_pos (by omega)]
      show _ = if 2 * j % 2 = 0 then (co l).c (2 * j + 1) else 0
      rw [if_pos (by omega), co_get l hlt]
    · rw [if_neg hk]
      by_cases hkj : k < 2 * j
      · rw [if_pos hkj, if_pos (by omega)]
      · rw [if_neg hkj]
        by_cases hk1 : k = 2 * j + 1
        · rw [if_pos (by omega)]
          show 0 = if k % 2 = 0 then _ else 0
          rw [if_neg (by omega)]
        · rw [if_neg (by omega)]
  · have hm : co m = (co l).D := Ps.ext fun k => by
      rw [mc k]
      by_cases hk : k < 2 * j
      · rw [if_pos hk]
      · rw [if_neg hk]
        show 0 = if k % 2 = 0 then (co l).c (k + 1) else 0
        rw [co_dg l (k + 1) (by omega)]
        split <;> rfl
    have hlt2 : ¬ (((2 * j + 1 : Nat) : Int) < (l.length : Int)) := by omega
    simp (maxSteps := 1000000) (disch := omega) only [WS, List.getElem_cons_zero, List.getElem_cons_succ, Option.isNone_some, Option.isNone_none, List.getD_cons_zero, List.getD_cons_succ, I.at, atL, atO, atP, evp, evs, retV, ↓reduceIte, Nat.reduceEqDiff, reduceCtorEq, AS, t0, t3, t4, (h.up B).Xlen, decide_eq_false hlt2]
    refine X_call0 ((culletref04_Trim_spec w2 p m om.sl (by omega)).mono ?_)
    rintro v w4 ⟨o4, hB⟩
    simp (maxSteps := 1000000) (disch := omega) only [WS, List.getElem_cons_zero, List.getElem_cons_succ, Option.isNone_some, Option.isNone_none, List.getD_cons_zero, List.getD_cons_succ, I.at, atL, atO, atP, evp, evs, retV, ↓reduceIte, Nat.reduceEqDiff, reduceCtorEq, AS]
    exact ⟨tr m, o4.mono B.size, tr_tr m, by rw [tr_co, hm], B.trans (hB.mono B.size)⟩
theorem tln_em16x (l : List (El 16)) : tln (l.map em16) = tln l := by rw [em16_map]
theorem tln_em8x : ∀ l : List (El 8), tln (l.map em8) = tln l
  | [] => rfl
  | x :: l => by
    rw [List.map_cons]
    unfold tln
    rw [tln_em8x l]
    simp only [em8_eq0]
theorem tr_em16 (l : List (El 16)) : tr (l.map em16) = (tr l).map em16 := by rw [em16_map, em16_map]
theorem tr_em8 (l : List (El 8)) : tr (l.map em8) = (tr l).map em8 := by unfold tr; rw [tln_em8x, List.map_take]
theorem co_em16 (l : List (El 16)) (k : Nat) : (co (l.map em16)).c k = em16 ((co l).c k) := by rw [em16_map]; rfl
theorem co_em8 (l : List (El 8)) (k : Nat) : (co (l.map em8)).c k = em8 ((co l).c k) := by
  show (l.map em8).getD k 0 = em8 (l.getD k 0)
  rw [List.getD_eq_getElem?_getD, List.getD_eq_getElem?_getD, List.getElem?_map]
  cases l[k]? <;> rfl
end Go.Proofs.YtcdagkcchfibjaaGreat.Fw

set_option linter.unusedVariables false
set_option linter.unusedSimpArgs false
set_option maxRecDepth 100000
set_option maxHeartbeats 1000000
namespace Go.Proofs.YtcdagkcchfibjaaGreat.Fw
open Go Go.Fw Go.Proofs
attribute [local irreducible] stepI
def c_culletref04_Eval : C := .seq (.ops [⟨0, (some 6), none, .mov (.c (.int .u16 0)), []⟩]) (.seq (.ops [⟨0, (some 7), none, .mov (.c (.int .u16 0)), []⟩]) (.seq (.ops [⟨0, (some 8), none, .mov (.c (.int .u16 1)), []⟩]) (.seq (.seq (.ops [⟨0, (some 9), none, .mov (.c (.int .i64 0)), []⟩]) (.block 0 (.loop (.seq (.seq (.ops [⟨0, (some 10), none, .mov (.t 9), []⟩, ⟨1, (some 11), none, .mov (.t 1), []⟩, ⟨2, (some 12), none, .len (.t 11), []⟩, ⟨3, (some 13), none, .bin .lss (.t 10) (.t 12), []⟩]) (.ite (.t 13) .skip (.exit 0))) (.seq (.block 1 (.seq (.ops [⟨0, (some 16), none, .mov (.t 7), []⟩, ⟨1, (some 17), none, .mov (.t 0), []⟩, ⟨2, (some 18), none, .mov (.t 1), []⟩, ⟨3, (some 19), none, .mov (.t 9), []⟩, ⟨4, (some 20), none, .ixs 1 (.t 18) (.t 19), []⟩, ⟨5, (some 21), none, .ld (.t 20), []⟩, ⟨6, (some 22), none, .mov (.t 8), []⟩, ⟨7, (some 23), none, .call (.c (.func (.func 67) #[] #[])) [.t 17, .t 21, .t 22], []⟩, ⟨8, (some 24), none, .bin .xor (.t 16) (.t 23), []⟩, ⟨9, (some 7), none, .mov (.t 24), []⟩]) (.ops [⟨0, (some 25), none, .mov (.t 0), []⟩, ⟨1, (some 26), none, .mov (.t 8), []⟩, ⟨2, (some 27), none, .mov (.t 2), []⟩, ⟨3, (some 28), none, .call (.c (.func (.func 67) #[] #[])) [.t 25, .t 26, .t 27], []⟩, ⟨4, (some 8), none, .mov (.t 28), []⟩]))) (.ops [⟨0, (some 14), none, .mov (.t 9), []⟩, ⟨1, (some 15), none, .bin .add (.t 14) (.c (.int .i64 1)), []⟩, ⟨2, (some 9), none, .mov (.t 15), []⟩])))))) (.seq (.ops [⟨0, (some 29), none, .mov (.t 7), []⟩, ⟨1, (some 6), none, .mov (.t 29), []⟩]) .ret))))
attribute [irreducible] c_culletref04_Eval
theorem run_culletref04_Eval {args : List Value} {w : World} {K : Value → World → Prop} (hn : args.length ≤ 30) (h : WP Tryz.prog c_culletref04_Eval (endQ [.t 6] K) (initT args) w) : CallV Tryz.prog 40 args w K :=
  call_of follows Tryz.func40 (by kernel_rfl) (by kernel_rfl) hn h
def c_culletref04_Mul : C := .seq (.ops [⟨0, (some 6), none, .mov (.c (.slice none 0 0)), []⟩, ⟨1, (some 7), none, .mov (.c (.int .i64 0)), []⟩]) (.seq (.seq (.ops [⟨0, (some 8), none, .mov (.t 1), []⟩, ⟨1, (some 9), none, .len (.t 8), []⟩, ⟨2, (some 10), none, .bin .gtr (.t 9) (.c (.int .i64 1024)), []⟩, ⟨3, (some 11), none, .mov (.t 10), []⟩, ⟨4, (some 12), (some (11, false)), .mov (.t 2), []⟩, ⟨5, (some 13), (some (11, false)), .len (.t 12), []⟩, ⟨6, (some 14), (some (11, false)), .bin .gtr (.t 13) (.c (.int .i64 1024)), []⟩, ⟨7, (some 15), none, .pick (.t 11) (.c (.bool true)) (.t 14), []⟩]) (.ite (.t 15) (.seq (.ops [⟨0, (some 6), none, .mov (.c (.slice none 0 0)), []⟩, ⟨1, (some 7), none, .mov (.c (.int .i64 5)), []⟩]) .ret) .skip)) (.seq (.ops [⟨0, (some 16), none, .mov (.t 0), []⟩, ⟨1, (some 17), none, .mov (.t 1), []⟩, ⟨2, (some 18), none, .mov (.t 2), []⟩, ⟨3, (some 19), none, .call (.c (.func (.func 70) #[] #[])) [.t 16, .t 17, .t 18], []⟩, ⟨4, (some 6), none, .mov (.t 19), []⟩, ⟨5, (some 7), none, .mov (.c (.int .i64 0)), []⟩]) .ret))
attribute [irreducible] c_culletref04_Mul
theorem run_culletref04_Mul {args : List Value} {w : World} {K : Value → World → Prop} (hn : args.length ≤ 20) (h : WP Tryz.prog c_culletref04_Mul (endQ [.t 6, .t 7] K) (initT args) w) : CallV Tryz.prog 43 args w K :=
  call_of follows Tryz.func43 (by kernel_rfl) (by kernel_rfl) hn h
def c_culletref04_times : C := .seq (.ops [⟨0, (some 6), none, .mov (.c (.int .u16 0)), []⟩]) (.seq (.seq (.ops [⟨0, (some 7), none, .mov (.t 1), []⟩, ⟨1, (some 8), none, .bin .eql (.t 7) (.c (.int .u16 0)), []⟩, ⟨2, (some 9), none, .mov (.t 8), []⟩, ⟨3, (some 10), (some (9, false)), .mov (.t 2), []⟩, ⟨4, (some 11), (some (9, false)), .bin .eql (.t 10) (.c (.int .u16 0)), []⟩, ⟨5, (some 12), none, .pick (.t 9) (.c (.bool true)) (.t 11), []⟩]) (.ite (.t 12) (.seq (.ops [⟨0, (some 6), none, .mov (.c (.int .u16 0)), []⟩]) .ret) .skip)) (.seq (.seq (.ops [⟨0, (some 13), none, .mov (.t 0), []⟩]) (.ite (.t 13) (.seq (.ops [⟨0, (some 14), none, .mov (.t 1), []⟩, ⟨1, (some 15), none, .mov (.t 2), []⟩, ⟨2, (some 16), none, .call (.c (.func (.func 93) #[] #[])) [.t 14, .t 15], []⟩, ⟨3, (some 6), none, .mov (.t 16), []⟩]) .ret) .skip)) (.seq (.ops [⟨0, (some 17), none, .mov (.t 1), []⟩, ⟨1, (some 18), none, .cnv .u8 (.t 17), []⟩, ⟨2, (some 19), none, .mov (.t 2), []⟩, ⟨3, (some 20), none, .cnv .u8 (.t 19), []⟩, ⟨4, (some 21), none, .call (.c (.func (.func 94) #[] #[])) [.t 18, .t 20], []⟩, ⟨5, (some 22), none, .cnv .u16 (.t 21), []⟩, ⟨6, (some 6), none, .mov (.t 22), []⟩]) .ret)))
attribute [irreducible] c_culletref04_times
theorem run_culletref04_times {args : List Value} {w : World} {K : Value → World → Prop} (hn : args.length ≤ 23) (h : WP Tryz.prog c_culletref04_times (endQ [.t 6] K) (initT args) w) : CallV Tryz.prog 67 args w K :=
  call_of follows Tryz.func67 (by kernel_rfl) (by kernel_rfl) hn h
def c_culletref04_product : C := .seq (.ops [⟨0, (some 6), none, .mov (.c (.slice none 0 0)), []⟩]) (.seq (.ops [⟨0, (some 10), none, .mov (.t 1), []⟩, ⟨1, (some 11), none, .len (.t 10), []⟩, ⟨2, (some 12), none, .mov (.t 2), []⟩, ⟨3, (some 13), none, .len (.t 12), []⟩, ⟨4, (some 14), none, .bin .add (.t 11) (.t 13), []⟩, ⟨5, (some 15), none, .mks 32 2 [.int .u16 0] (.t 14) (.t 14), []⟩, ⟨6, (some 7), none, .mov (.t 15), []⟩]) (.seq (.seq (.ops [⟨0, (some 8), none, .mov (.c (.int .i64 0)), []⟩]) (.block 0 (.loop (.seq (.seq (.ops [⟨0, (some 16), none, .mov (.t 8), []⟩, ⟨1, (some 17), none, .mov (.t 1), []⟩, ⟨2, (some 18), none, .len (.t 17), []⟩, ⟨3, (some 19), none, .bin .lss (.t 16) (.t 18), []⟩]) (.ite (.t 19) .skip (.exit 0))) (.seq (.block 1 (.seq (.ops [⟨0, (some 22), none, .mov (.t 1), []⟩, ⟨1, (some 23), none, .mov (.t 8), []⟩, ⟨2, (some 24), none, .ixs 1 (.t 22) (.t 23), []⟩, ⟨3, (some 25), none, .ld (.t 24), []⟩, ⟨4, (some 26), none, .bin .neq (.t 25) (.c (.int .u16 0)), []⟩]) (.ite (.t 26) (.seq (.ops [⟨0, (some 9), none, .mov (.c (.int .i64 0)), []⟩]) (.block 2 (.loop (.seq (.seq (.ops [⟨0, (some 27), none, .mov (.t 9), []⟩, ⟨1, (some 28), none, .mov (.t 2), []⟩, ⟨2, (some 29), none, .len (.t 28), []⟩, ⟨3, (some 30), none, .bin .lss (.t 27) (.t 29), []⟩]) (.ite (.t 30) .skip (.exit 2))) (.seq (.block 3 (.dops [⟨0, (some 33), none, .mov (.t 7), []⟩, ⟨1, (some 34), none, .mov (.t 8), []⟩, ⟨2, (some 35), none, .mov (.t 9), []⟩, ⟨3, (some 36), none, .bin .add (.t 34) (.t 35), []⟩, ⟨4, (some 37), none, .mov (.t 7), []⟩, ⟨5, (some 38), none, .mov (.t 8), []⟩, ⟨6, (some 39), none, .mov (.t 9), []⟩, ⟨7, (some 40), none, .bin .add (.t 38) (.t 39), []⟩, ⟨8, (some 41), none, .ixs 1 (.t 37) (.t 40), []⟩, ⟨9, (some 42), none, .ld (.t 41), []⟩, ⟨10, (some 43), none, .mov (.t 0), []⟩, ⟨11, (some 44), none, .mov (.t 1), []⟩, ⟨12, (some 45), none, .mov (.t 8), []⟩, ⟨13, (some 46), none, .ixs 1 (.t 44) (.t 45), []⟩, ⟨14, (some 47), none, .ld (.t 46), []⟩, ⟨15, (some 48), none, .mov (.t 2), []⟩, ⟨16, (some 49), none, .mov (.t 9), []⟩, ⟨17, (some 50), none, .ixs 1 (.t 48) (.t 49), []⟩, ⟨18, (some 51), none, .ld (.t 50), []⟩, ⟨19, (some 52), none, .call (.c (.func (.func 67) #[] #[])) [.t 43, .t 47, .t 51], [9]⟩, ⟨20, (some 53), none, .bin .xor (.t 42) (.t 52), []⟩, ⟨21, (some 54), none, .ixs 1 (.t 33) (.t 36), []⟩, ⟨22, none, none, .st (.t 54) (.t 53), []⟩])) (.ops [⟨0, (some 31), none, .mov (.t 9), []⟩, ⟨1, (some 32), none, .bin .add (.t 31) (.c (.int .i64 1)), []⟩, ⟨2, (some 9), none, .mov (.t 32), []⟩])))))) .skip))) (.ops [⟨0, (some 20), none, .mov (.t 8), []⟩, ⟨1, (some 21), none, .bin .add (.t 20) (.c (.int .i64 1)), []⟩, ⟨2, (some 8), none, .mov (.t 21), []⟩])))))) (.seq (.ops [⟨0, (some 55), none, .mov (.t 7), []⟩, ⟨1, (some 56), none, .call (.c (.func (.func 34) #[] #[])) [.t 55], []⟩, ⟨2, (some 6), none, .mov (.t 56), []⟩]) .ret)))
attribute [irreducible] c_culletref04_product
theorem run_culletref04_product {args : List Value} {w : World} {K : Value → World → Prop} (hn : args.length ≤ 57) (h : WP Tryz.prog c_culletref04_product (endQ [.t 6] K) (initT args) w) : CallV Tryz.prog 70 args w K :=
  call_of follows Tryz.func70 (by kernel_rfl) (by kernel_rfl) hn h
def c_culletref04_inverse : C := .seq (.ops [⟨0, (some 4), none, .mov (.c (.int .u16 0)), []⟩]) (.seq (.seq (.ops [⟨0, (some 9), none, .mov (.t 0), []⟩]) (.ite (.t 9) (.seq (.ops [⟨0, (some 11), none, .mov (.t 1), []⟩, ⟨1, (some 12), none, .call (.c (.func (.func 97) #[] #[])) [.t 11], []⟩, ⟨2, (some 10), none, .mov (.t 12), []⟩, ⟨3, (some 13), none, .ext (.t 10) 0, []⟩, ⟨4, (some 14), none, .ext (.t 10) 1, []⟩, ⟨5, (some 5), none, .mov (.t 13), []⟩, ⟨6, (some 6), none, .mov (.t 14), []⟩]) (.seq (.ops [⟨0, (some 15), none, .mov (.t 5), []⟩, ⟨1, (some 4), none, .mov (.t 15), []⟩]) .ret)) .skip)) (.seq (.ops [⟨0, (some 17), none, .mov (.t 1), []⟩, ⟨1, (some 18), none, .cnv .u8 (.t 17), []⟩, ⟨2, (some 19), none, .call (.c (.func (.func 98) #[] #[])) [.t 18], []⟩, ⟨3, (some 16), none, .mov (.t 19), []⟩, ⟨4, (some 20), none, .ext (.t 16) 0, []⟩, ⟨5, (some 21), none, .ext (.t 16) 1, []⟩, ⟨6, (some 7), none, .mov (.t 20), []⟩, ⟨7, (some 8), none, .mov (.t 21), []⟩]) (.seq (.ops [⟨0, (some 22), none, .mov (.t 7), []⟩, ⟨1, (some 23), none, .cnv .u16 (.t 22), []⟩, ⟨2, (some 4), none, .mov (.t 23), []⟩]) .ret)))
attribute [irreducible] c_culletref04_inverse
theorem run_culletref04_inverse {args : List Value} {w : World} {K : Value → World → Prop} (hn : args.length ≤ 24) (h : WP Tryz.prog c_culletref04_inverse (endQ [.t 4] K) (initT args) w) : CallV Tryz.prog 74 args w K :=
  call_of follows Tryz.func74 (by kernel_rfl) (by kernel_rfl) hn h
end Go.Proofs.YtcdagkcchfibjaaGreat.Fw
namespace Go.Proofs.YtcdagkcchfibjaaGreat.Fw
open Go Go.Fw
theorem em16_wz (x : El 16) : (((em16 x).v.toNat : Int) = 0) = (x = 0) := by rw [el_zero]; exact em16_eq0 x
theorem culletref04_timesx_w_spec (w : World) (a b : El 16) : CallV Tryz.prog 67 [.bool true, .int .u16 ((em16 a).v.toNat : Int), .int .u16 ((em16 b).v.toNat : Int)] w fun v w' => v = .int .u16 ((em16 (a * b)).v.toNat : Int) ∧ w' = w := by
  refine run_culletref04_times (by simp) ?_
  simp only [c_culletref04_times, WS, List.getElem_cons_zero, List.getElem_cons_succ, Option.isNone_some, Option.isNone_none, List.getD_cons_zero, List.getD_cons_succ, I.at, atL, atO, atP, evp, evs, retV, ↓reduceIte, Nat.reduceEqDiff, reduceCtorEq]
  by_cases ha : a = 0
  · have d1 : decide (((em16 a).v.toNat : Int) = 0) = true := decide_eq_true ((em16_wz a).mpr ha)
    have e : (0 : Int) = ((em16 (a * b)).v.toNat : Int) := by rw [ha, El.zero_mul]; rfl
    simp only [WS, List.getElem_cons_zero, List.getElem_cons_succ, Option.isNone_some, Option.isNone_none, List.getD_cons_zero, List.getD_cons_succ, I.at, atL, atO, atP, evp, evs, retV, ↓reduceIte, Nat.reduceEqDiff, reduceCtorEq, d1]
    exact congrArg (Value.int .u16) e
  have d1 : decide (((em16 a).v.toNat : Int) = 0) = false := decide_eq_false (fun e => ha ((em16_wz a).mp e))
  by_cases hb : b = 0
  · have d2 : decide (((em16 b).v.toNat : Int) = 0) = true := decide_eq_true ((em16_wz b).mpr hb)
    have e : (0 : Int) = ((em16 (a * b)).v.toNat : Int) := by rw [hb, El.mul_zero]; rfl
    simp only [WS, List.getElem_cons_zero, List.getElem_cons_succ, Option.isNone_some, Option.isNone_none, List.getD_cons_zero, List.getD_cons_succ, I.at, atL, atO, atP, evp, evs, retV, ↓reduceIte, Nat.reduceEqDiff, reduceCtorEq, d1, d2]
    exact congrArg (Value.int .u16) e
  have d2 : decide (((em16 b).v.toNat : Int) = 0) = false := decide_eq_false (fun e => hb ((em16_wz b).mp e))
  simp only [WS, List.getElem_cons_zero, List.getElem_cons_succ, Option.isNone_some, Option.isNone_none, List.getD_cons_zero, List.getD_cons_succ, I.at, atL, atO, atP, evp, evs, retV, ↓reduceIte, Nat.reduceEqDiff, reduceCtorEq, d1, d2]
  refine X_call0 ((culletref03_Mul_spec w a b).mono ?_)
  rintro _ w' ⟨rfl, rfl⟩
  simp only [WS, List.getElem_cons_zero, List.getElem_cons_succ, Option.isNone_some, Option.isNone_none, List.getD_cons_zero, List.getD_cons_succ, I.at, atL, atO, atP, evp, evs, retV, ↓reduceIte, Nat.reduceEqDiff, reduceCtorEq]
  rfl
theorem culletref04_inverse_w_spec (w : World) (a : El 16) (h0 : a ≠ 0) : CallV Tryz.prog 74 [.bool true, .int .u16 ((em16 a).v.toNat : Int)] w fun v w' => v = .int .u16 ((em16 a.inv).v.toNat : Int) ∧ w' = w := by
  refine run_culletref04_inverse (by simp) ?_
  simp only [c_culletref04_inverse, WS, List.getElem_cons_zero, List.getElem_cons_succ, Option.isNone_some, Option.isNone_none, List.getD_cons_zero, List.getD_cons_succ, I.at, atL, atO, atP, evp, evs, retV, ↓reduceIte, Nat.reduceEqDiff, reduceCtorEq]
  refine X_call0 ((culletref03_Inv_spec w a h0).mono ?_)
  rintro _ w' ⟨rfl, rfl⟩
  simp only [WS, List.getElem_cons_zero, List.getElem_cons_succ, Option.isNone_some, Option.isNone_none, List.getD_cons_zero, List.getD_cons_succ, I.at, atL, atO, atP, evp, evs, retV, ↓reduceIte, Nat.reduceEqDiff, reduceCtorEq]
  rfl
theorem culletref04_Eval_w_spec (w : World) (s : Value) (l : List (El 16)) (x : El 16) (h : Sl w s (l.map em16)) (hb : l.length ≤ 70368744175616) :
    CallV Tryz.prog 40 [.bool true, s, .int .u16 ((em16 x).v.toNat : Int)] w fun v w' => v = .int .u16 ((em16 (evl l x)).v.toNat : Int) ∧ w' = w := by
  refine run_culletref04_Eval (by simp) ?_
  simp only [c_culletref04_Eval, WS, List.getElem_cons_zero, List.getElem_cons_succ, Option.isNone_some, Option.isNone_none, List.getD_cons_zero, List.getD_cons_succ, I.at, atL, atO, atP, evp, evs, retV, ↓reduceIte, Nat.reduceEqDiff, reduceCtorEq]
  have hml : (l.map em16).length = l.length := List.length_map ..
  refine loop_of (fun t w' => w' = w ∧ t 0 = .bool true ∧ t 1 = s ∧ t 2 = .int .u16 ((em16 x).v.toNat : Int) ∧ ∃ (i : Nat) (v p : El 16), t 9 = .int .i64 (i : Int) ∧ i ≤ l.length ∧ t 7 = .int .u16 ((em16 v).v.toNat : Int) ∧ t 8 = .int .u16 ((em16 p).v.toNat : Int) ∧ v + p * evl (l.drop i) x = evl l x) (fun t _ => l.length - (toI (t 9)).toNat)
    ⟨rfl, by simp only [WS, List.getElem_cons_zero, List.getElem_cons_succ, Option.isNone_some, Option.isNone_none, List.getD_cons_zero, List.getD_cons_succ, I.at, atL, atO, atP, evp, evs, retV, ↓reduceIte, Nat.reduceEqDiff, reduceCtorEq], by simp only [WS, List.getElem_cons_zero, List.getElem_cons_succ, Option.isNone_some, Option.isNone_none, List.getD_cons_zero, List.getD_cons_succ, I.at, atL, atO, atP, evp, evs, retV, ↓reduceIte, Nat.reduceEqDiff, reduceCtorEq], by simp only [WS, List.getElem_cons_zero, List.getElem_cons_succ, Option.isNone_some, Option.isNone_none, List.getD_cons_zero, List.getD_cons_succ, I.at, atL, atO, atP, evp, evs, retV, ↓reduceIte, Nat.reduceEqDiff, reduceCtorEq], 0, 0, 1, rfl, by omega, rfl, rfl, by rw [List.drop_zero, El.one_mul, El.zero_add]⟩ ?_
  rintro t w' ⟨rfl, t0, t1, t2, i, v, p, t9, hi, t7, t8, hv⟩
  by_cases hlt : i < l.length
  · have hlt2 : i < (l.map em16).length := by omega
    have hg : (l.map em16)[i] = em16 l[i] := List.getElem_map ..
    simp (maxSteps := 1000000) (disch := omega) only [WS, List.getElem_cons_zero, List.getElem_cons_succ, Option.isNone_some, Option.isNone_none, List.getD_cons_zero, List.getD_cons_succ, I.at, atL, atO, atP, evp, evs, retV, ↓reduceIte, Nat.reduceEqDiff, reduceCtorEq, AS, t0, t1, t2, t7, t8, t9, h.Xlen, hml, h.Xix hlt2, h.Xld hlt2, hg, cell_e16]
    refine X_call0 ((culletref04_timesx_w_spec w' l[i] p).mono ?_)
    rintro _ w2 ⟨rfl, rfl⟩
    simp (maxSteps := 1000000) (disch := omega) only [WS, List.getElem_cons_zero, List.getElem_cons_succ, Option.isNone_some, Option.isNone_none, List.getD_cons_zero, List.getD_cons_succ, I.at, atL, atO, atP, evp, evs, retV, ↓reduceIte, Nat.reduceEqDiff, reduceCtorEq, AS, t0, t1, t2, t7, t8, t9, xor16, em16_add]
    refine X_call0 ((culletref04_timesx_w_spec w2 p x).mono ?_)
    rintro _ w3 ⟨rfl, rfl⟩
    simp (maxSteps := 1000000) (disch := omega) only [WS, List.getElem_cons_zero, List.getElem_cons_succ, Option.isNone_some, Option.isNone_none, List.getD_cons_zero, List.getD_cons_succ, I.at, atL, atO, atP, evp, evs, retV, ↓reduceIte, Nat.reduceEqDiff, reduceCtorEq, AS, t0, t1, t2, t7, t8, t9]
    refine ⟨⟨i + 1, v + l[i] * p, p * x, rfl, by omega, rfl, rfl, ?_⟩, by omega⟩
    rw [← hv, evl_drop x l hlt, El.mul_add]
    rw [show p * (x * evl (l.drop (i + 1)) x) = p * x * evl (l.drop (i + 1)) x from (El.mul_assoc _ _ _).symm, El.mul_comm l[i] p, El.add_assoc]
  · obtain rfl : i = l.length := by omega
    rw [List.drop_length] at hv
    have hv2 : v = evl l x := by rw [← hv]; show v = v + p * 0; rw [El.mul_zero, El.add_zero]
    rw [hv2] at t7
    simp (maxSteps := 1000000) (disch := omega) only [WS, List.getElem_cons_zero, List.getElem_cons_succ, Option.isNone_some, Option.isNone_none, List.getD_cons_zero, List.getD_cons_succ, I.at, atL, atO, atP, evp, evs, retV, ↓reduceIte, Nat.reduceEqDiff, reduceCtorEq, AS, t0, t1, t2, t7, t8, t9, h.Xlen, hml]
theorem culletref04_product_w_spec (w : World) (s1 s2 : Value) (l1 l2 : List (El 16)) (h1 : Sl w s1 (l1.map em16)) (h2 : Sl w s2 (l2.map em16)) (hb1 : l1.length ≤ 2097152) (hb2 : l2.length ≤ 2097152) :
    CallV Tryz.prog 70 [.bool true, s1, s2] w fun v w' => ∃ l : List (El 16), Ow w.heap.size w' v (l.map em16) ∧ tr l = l ∧ co l = co l1 * co l2 ∧ l.length ≤ l1.length + l2.length ∧ RowKit.Below w.heap.size w w' := by
  refine run_culletref04_product (by simp) ?_
  simp only [c_culletref04_product, WS, List.getElem_cons_zero, List.getElem_cons_succ, Option.isNone_some, Option.isNone_none, List.getD_cons_zero, List.getD_cons_succ, I.at, atL, atO, atP, evp, evs, retV, ↓reduceIte, Nat.reduceEqDiff, reduceCtorEq]
  have hm1 : (l1.map em16).length = l1.length := List.length_map ..
  have hm2 : (l2.map em16).length = l2.length := List.length_map ..
  simp (maxSteps := 1000000) (disch := omega) only [WS, List.getElem_cons_zero, List.getElem_cons_succ, Option.isNone_some, Option.isNone_none, List.getD_cons_zero, List.getD_cons_succ, I.at, atL, atO, atP, evp, evs, retV, ↓reduceIte, Nat.reduceEqDiff, reduceCtorEq, AS, h1.Xlen, h2.Xlen, hm1, hm2]
  refine X_mks (x := (0 : El 16)) (by simp only [maxBytes]; omega) (by omega) fun p w1 ho hB => ?_
  have hz : List.replicate (l1.length + l2.length) (0 : El 16) = (List.replicate (l1.length + l2.length) (0 : El 16)).map em16 := by rw [List.map_replicate]; rfl
  rw [hz] at ho
  simp (maxSteps := 1000000) (disch := omega) only [WS, List.getElem_cons_zero, List.getElem_cons_succ, Option.isNone_some, Option.isNone_none, List.getD_cons_zero, List.getD_cons_succ, I.at, atL, atO, atP, evp, evs, retV, ↓reduceIte, Nat.reduceEqDiff, reduceCtorEq, AS]
  refine loop_of (fun t w2 => t 0 = .bool true ∧ t 1 = s1 ∧ t 2 = s2 ∧ t 7 = p ∧ RowKit.Below w.heap.size w w2 ∧ ∃ (i : Nat) (ls : List (El 16)), t 8 = .int .i64 (i : Int) ∧ i ≤ l1.length ∧ Ow w.heap.size w2 p (ls.map em16) ∧ ls.length = l1.length + l2.length ∧ co ls = co (l1.take i) * co l2)
    (fun t _ => l1.length - (toI (t 8)).toNat) ⟨by simp only [WS, List.getElem_cons_zero, List.getElem_cons_succ, Option.isNone_some, Option.isNone_none, List.getD_cons_zero, List.getD_cons_succ, I.at, atL, atO, atP, evp, evs, retV, ↓reduceIte, Nat.reduceEqDiff, reduceCtorEq], by simp only [WS, List.getElem_cons_zero, List.getElem_cons_succ, Option.isNone_some, Option.isNone_none, List.getD_cons_zero, List.getD_cons_succ, I.at, atL, atO, atP, evp, evs, retV, ↓reduceIte, Nat.reduceEqDiff, reduceCtorEq], by simp only [WS, List.getElem_cons_zero, List.getElem_cons_succ, Option.isNone_some, Option.isNone_none, List.getD_cons_zero, List.getD_cons_succ, I.at, atL, atO, atP, evp, evs, retV, ↓reduceIte, Nat.reduceEqDiff, reduceCtorEq], by simp only [WS, List.getElem_cons_zero, List.getElem_cons_succ, Option.isNone_some, Option.isNone_none, List.getD_cons_zero, List.getD_cons_succ, I.at, atL, atO, atP, evp, evs, retV, ↓reduceIte, Nat.reduceEqDiff, reduceCtorEq], hB, 0, _, rfl, by omega, ho, List.length_replicate .., by rw [List.take_zero, co_nil, Ps.zero_mul, co_replicate]⟩ ?_
  clear ho hB hz
  rintro t w2 ⟨t0, t1, t2, t7, B, i, ls, t8, hi, ho, hll, hc⟩
  by_cases hlt : i < l1.length
  · have g1 := h1.up B
    have hlt2 : i < (l1.map em16).length := by omega
    have hg1 : (l1.map em16)[i] = em16 l1[i] := List.getElem_map ..
    by_cases hx : l1[i] = 0
    · have d1 : (!decide (((em16 l1[i]).v.toNat : Int) = 0)) = false := by rw [decide_eq_true ((em16_wz _).mpr hx)]; rfl
      simp (maxSteps := 1000000) (disch := omega) only [WS, List.getElem_cons_zero, List.getElem_cons_succ, Option.isNone_some, Option.isNone_none, List.getD_cons_zero, List.getD_cons_succ, I.at, atL, atO, atP, evp, evs, retV, ↓reduceIte, Nat.reduceEqDiff, reduceCtorEq, AS, t0, t1, t2, t7, t8, g1.Xlen, hm1, g1.Xix hlt2, g1.Xld hlt2, hg1, cell_e16, d1]
      refine ⟨⟨B, i + 1, ls, rfl, by omega, ho, hll, ?_⟩, by omega⟩
      rw [hc, co_take_succ _ hlt, hx, mono_zero, Ps.add_zero]
    · have d1 : (!decide (((em16 l1[i]).v.toNat : Int) = 0)) = true := by rw [decide_eq_false (fun e => hx ((em16_wz _).mp e))]; rfl
      simp (maxSteps := 1000000) (disch := omega) only [WS, List.getElem_cons_zero, List.getElem_cons_succ, Option.isNone_some, Option.isNone_none, List.getD_cons_zero, List.getD_cons_succ, I.at, atL, atO, atP, evp, evs, retV, ↓reduceIte, Nat.reduceEqDiff, reduceCtorEq, AS, t0, t1, t2, t7, t8, g1.Xlen, hm1, g1.Xix hlt2, g1.Xld hlt2, hg1, cell_e16, d1]
      refine loop_of (fun t w2 => t 0 = .bool true ∧ t 1 = s1 ∧ t 2 = s2 ∧ t 7 = p ∧ t 8 = .int .i64 (i : Int) ∧ RowKit.Below w.heap.size w w2 ∧ ∃ (j : Nat) (ls : List (El 16)), t 9 = .int .i64 (j : Int) ∧ j ≤ l2.length ∧
          Ow w.heap.size w2 p (ls.map em16) ∧ ls.length = l1.length + l2.length ∧ ∀ k, (co ls).c k = (co (l1.take i) * co l2).c k + (if i ≤ k ∧ k < i + j then l1[i] * (co l2).c (k - i) else 0))
        (fun t _ => l2.length - (toI (t 9)).toNat) ⟨by simp only [WS, List.getElem_cons_zero, List.getElem_cons_succ, Option.isNone_some, Option.isNone_none, List.getD_cons_zero, List.getD_cons_succ, I.at, atL, atO, atP, evp, evs, retV, ↓reduceIte, Nat.reduceEqDiff, reduceCtorEq]; exact t0, by simp only [WS, List.getElem_cons_zero, List.getElem_cons_succ, Option.isNone_some, Option.isNone_none, List.getD_cons_zero, List.getD_cons_succ, I.at, atL, atO, atP, evp, evs, retV, ↓reduceIte, Nat.reduceEqDiff, reduceCtorEq]; exact t1, by simp only [WS, List.getElem_cons_zero, List.getElem_cons_succ, Option.isNone_some, Option.isNone_none, List.getD_cons_zero, List.getD_cons_succ, I.at, atL, atO, atP, evp, evs, retV, ↓reduceIte, Nat.reduceEqDiff, reduceCtorEq]; exact t2, by simp only [WS, List.getElem_cons_zero, List.getElem_cons_succ, Option.isNone_some, Option.isNone_none, List.getD_cons_zero, List.getD_cons_succ, I.at, atL, atO, atP, evp, evs, retV, ↓reduceIte, Nat.reduceEqDiff, reduceCtorEq]; exact t7, by simp only [WS, List.getElem_cons_zero, List.getElem_cons_succ, Option.isNone_some, Option.isNone_none, List.getD_cons_zero, List.getD_cons_succ, I.at, atL, atO, atP, evp, evs, retV, ↓reduceIte, Nat.reduceEqDiff, reduceCtorEq]; exact t8, B, 0, ls, rfl, by omega, ho, hll, fun k => by rw [hc, if_neg (by omega), El.add_zero]⟩ ?_
      clear ho hc hll B t0 t1 t2 t7 t8 g1
      rintro t w3 ⟨t0, t1, t2, t7, t8, B, j, ls, t9, hj, ho, hll, hc⟩
      have g2 := h2.up B
      have g1 := h1.up B
      by_cases hjl : j < l2.length
      · have hij : i + j < ls.length := by omega
        have hijm : i + j < (ls.map em16).length := by rw [List.length_map]; exact hij
        have hjl2 : j < (l2.map em16).length := by omega
        have hg2 : (l2.map em16)[j] = em16 l2[j] := List.getElem_map ..
        have hgs : (ls.map em16)[i + j] = em16 ls[i + j] := List.getElem_map ..
        simp (maxSteps := 1000000) (disch := omega) only [WS, List.getElem_cons_zero, List.getElem_cons_succ, Option.isNone_some, Option.isNone_none, List.getD_cons_zero, List.getD_cons_succ, I.at, atL, atO, atP, evp, evs, retV, ↓reduceIte, Nat.reduceEqDiff, reduceCtorEq, AS, t0, t1, t2, t7, t8, t9, g2.Xlen, hm2]
        refine WP_dops ?_
        have hos := ho.sl.drew
        have g1d := g1.drew
        have g2d := g2.drew
        have see : Fw.sees Tryz.prog (.ld (.c (elP p (i + j)))) w3.drew (.int .u16 ((em16 ls[i + j]).v.toNat : Int)) = True := by rw [← hgs]; exact hos.sees hijm Tryz.prog
        have see1 : Fw.sees Tryz.prog (.ld (.c (elP s1 i))) w3.drew (.int .u16 ((em16 l1[i]).v.toNat : Int)) = True := by rw [← hg1]; exact g1d.sees hlt2 Tryz.prog
        have see2 : Fw.sees Tryz.prog (.ld (.c (elP s2 j))) w3.drew (.int .u16 ((em16 l2[j]).v.toNat : Int)) = True := by rw [← hg2]; exact g2d.sees hjl2 Tryz.prog
        simp (maxSteps := 1000000) (disch := omega) only [ES, List.mem_cons, List.not_mem_nil, implies_true, forall_const, WS, List.getElem_cons_zero, List.getElem_cons_succ, Option.isNone_some, Option.isNone_none, List.getD_cons_zero, List.getD_cons_succ, I.at, atL, atO, atP, evp, evs, retV, ↓reduceIte, Nat.reduceEqDiff, reduceCtorEq, AS, t0, t1, t2, t7, t8, t9, hos.Eix hijm, hos.Eld hijm, g1d.Eix hlt2, g1d.Eld hlt2, g2d.Eix hjl2, g2d.Eld hjl2, hg1, hg2, hgs, cell_e16]
        refine E_call0 ((culletref04_timesx_w_spec w3.drew l1[i] l2[j]).mono ?_)
        rintro _ w4 ⟨rfl, rfl⟩
        simp (maxSteps := 1000000) (disch := omega) only [ES, List.mem_cons, List.not_mem_nil, implies_true, forall_const, WS, List.getElem_cons_zero, List.getElem_cons_succ, Option.isNone_some, Option.isNone_none, List.getD_cons_zero, List.getD_cons_succ, I.at, atL, atO, atP, evp, evs, retV, ↓reduceIte, Nat.reduceEqDiff, reduceCtorEq, AS, t0, t1, t2, t7, t8, t9, see, see1, see2, hos.Eix hijm, hos.Eld hijm, hgs, cell_e16, xor16, em16_add]
        refine Ow.Est ho.drew hijm (em16 (ls[i + j] + l1[i] * l2[j])) fun w5 ho5 hg5 => ?_
        rw [← List.map_set] at ho5
        simp (maxSteps := 1000000) (disch := omega) only [ES, List.mem_cons, List.not_mem_nil, implies_true, forall_const, WS, List.getElem_cons_zero, List.getElem_cons_succ, Option.isNone_some, Option.isNone_none, List.getD_cons_zero, List.getD_cons_succ, I.at, atL, atO, atP, evp, evs, retV, ↓reduceIte, Nat.reduceEqDiff, reduceCtorEq, AS, t0, t1, t2, t7, t8, t9]
        refine ⟨⟨B.grown (grown_of_drew hg5) B.size fun b hb => (ho.blk b hb).1, j + 1, _, rfl, by omega, ho5, by simp [hll], fun k => ?_⟩, by omega⟩
        rw [co_set _ hij, hc k]
        by_cases hk : k = i + j
        · subst hk
          rw [if_pos rfl, if_pos ⟨by omega, by omega⟩]
          have := hc (i + j)
          rw [if_neg (by omega), El.add_zero, co_get ls hij] at this
          rw [this, show i + j - i = j by omega, co_get _ hjl]
        · rw [if_neg hk]
          have : (i ≤ k ∧ k < i + (j + 1)) = (i ≤ k ∧ k < i + j) := propext ⟨fun h => by omega, fun h => by omega⟩
          simp only [this]
      · simp (maxSteps := 1000000) (disch := omega) only [WS, List.getElem_cons_zero, List.getElem_cons_succ, Option.isNone_some, Option.isNone_none, List.getD_cons_zero, List.getD_cons_succ, I.at, atL, atO, atP, evp, evs, retV, ↓reduceIte, Nat.reduceEqDiff, reduceCtorEq, AS, t0, t1, t2, t7, t8, t9, g2.Xlen, hm2]
        refine ⟨⟨B, i + 1, ls, rfl, by omega, ho, hll, ?_⟩, by omega⟩
        rw [co_take_succ _ hlt, Ps.add_mul]
        refine Ps.ext fun k => ?_
        rw [hc k, Ps.add_c, Ps.mono_mul]
        congr 1
        by_cases hik : i ≤ k
        · rw [if_pos hik]
          by_cases hk2 : k < i + j
          · rw [if_pos ⟨hik, hk2⟩]
          · rw [if_neg (by omega), co_dg l2 (k - i) (by omega), El.mul_zero]
        · rw [if_neg (by omega), if_neg hik]
  · obtain rfl : i = l1.length := by omega
    rw [List.take_length] at hc
    have hmm : (ls.map em16).length ≤ 70368744175616 := by rw [List.length_map]; omega
    simp (maxSteps := 1000000) (disch := omega) only [WS, List.getElem_cons_zero, List.getElem_cons_succ, Option.isNone_some, Option.isNone_none, List.getD_cons_zero, List.getD_cons_succ, I.at, atL, atO, atP, evp, evs, retV, ↓reduceIte, Nat.reduceEqDiff, reduceCtorEq, AS, t0, t1, t2, t7, t8, (h1.up B).Xlen, hm1]
    refine X_call0 ((culletref04_Trim_spec w2 p (ls.map em16) ho.sl hmm).mono ?_)
    rintro v w3 ⟨o3, hB⟩
    rw [tr_em16] at o3
    simp (maxSteps := 1000000) (disch := omega) only [WS, List.getElem_cons_zero, List.getElem_cons_succ, Option.isNone_some, Option.isNone_none, List.getD_cons_zero, List.getD_cons_succ, I.at, atL, atO, atP, evp, evs, retV, ↓reduceIte, Nat.reduceEqDiff, reduceCtorEq, AS]
    exact ⟨tr ls, o3.mono B.size, tr_tr ls, by rw [tr_co, hc], by rw [tr_len]; have := tln_le ls; omega, B.trans (hB.mono B.size)⟩
theorem culletref04_Mulx_w_spec (w : World) (s1 s2 : Value) (l1 l2 : List (El 16)) (h1 : Sl w s1 (l1.map em16)) (h2 : Sl w s2 (l2.map em16)) (hb1 : l1.length ≤ 70368744175616) (hb2 : l2.length ≤ 70368744175616) :
    CallV Tryz.prog 43 [.bool true, s1, s2] w fun v w' => RowKit.Below w.heap.size w w' ∧
      ((l1.length ≤ 1024 ∧ l2.length ≤ 1024 ∧ ∃ (s : Value) (l : List (El 16)), v = .tuple #[s, .int .i64 0] ∧ Ow w.heap.size w' s (l.map em16) ∧ tr l = l ∧ co l = co l1 * co l2) ∨
       (¬ (l1.length ≤ 1024 ∧ l2.length ≤ 1024) ∧ v = .tuple #[.slice none 0 0, .int .i64 5])) := by
  refine run_culletref04_Mul (by simp) ?_
  simp only [c_culletref04_Mul, WS, List.getElem_cons_zero, List.getElem_cons_succ, Option.isNone_some, Option.isNone_none, List.getD_cons_zero, List.getD_cons_succ, I.at, atL, atO, atP, evp, evs, retV, ↓reduceIte, Nat.reduceEqDiff, reduceCtorEq]
  have hm1 : (l1.map em16).length = l1.length := List.length_map ..
  have hm2 : (l2.map em16).length = l2.length := List.length_map ..
  by_cases c1 : 1024 < l1.length
  · simp (maxSteps := 1000000) (disch := omega) only [WS, List.getElem_cons_zero, List.getElem_cons_succ, Option.isNone_some, Option.isNone_none, List.getD_cons_zero, List.getD_cons_succ, I.at, atL, atO, atP, evp, evs, retV, ↓reduceIte, Nat.reduceEqDiff, reduceCtorEq, AS, h1.Xlen, hm1]
    exact ⟨RowKit.Below.refl _ _, Or.inr (by omega)⟩
  by_cases c2 : 1024 < l2.length
  · simp (maxSteps := 1000000) (disch := omega) only [WS, List.getElem_cons_zero, List.getElem_cons_succ, Option.isNone_some, Option.isNone_none, List.getD_cons_zero, List.getD_cons_succ, I.at, atL, atO, atP, evp, evs, retV, ↓reduceIte, Nat.reduceEqDiff, reduceCtorEq, AS, h1.Xlen, h2.Xlen, hm1, hm2]
    exact ⟨RowKit.Below.refl _ _, Or.inr (by omega)⟩
  simp (maxSteps := 1000000) (disch := omega) only [WS, List.getElem_cons_zero, List.getElem_cons_succ, Option.isNone_some, Option.isNone_none, List.getD_cons_zero, List.getD_cons_succ, I.at, atL, atO, atP, evp, evs, retV, ↓reduceIte, Nat.reduceEqDiff, reduceCtorEq, AS, h1.Xlen, h2.Xlen, hm1, hm2]
  refine X_call0 ((culletref04_product_w_spec w s1 s2 l1 l2 h1 h2 (by omega) (by omega)).mono ?_)
  rintro v w' ⟨l, ol, tl, cl, ll, hB⟩
  simp (maxSteps := 1000000) (disch := omega) only [WS, List.getElem_cons_zero, List.getElem_cons_succ, Option.isNone_some, Option.isNone_none, List.getD_cons_zero, List.getD_cons_succ, I.at, atL, atO, atP, evp, evs, retV, ↓reduceIte, Nat.reduceEqDiff, reduceCtorEq, AS]
  exact ⟨hB, Or.inl ⟨by omega, by omega, v, l, rfl, ol, tl, cl⟩⟩
end Go.Proofs.YtcdagkcchfibjaaGreat.Fw

namespace Go.Proofs.YtcdagkcchfibjaaGreat.Fw
open Go Go.Fw
theorem em8_wz (x : El 8) : (((em8 x).v.toNat : Int) = 0) = (x = 0) := by rw [el_zero]; exact em8_eq0 x
theorem culletref04_timesx_b_spec (w : World) (a b : El 8) : CallV Tryz.prog 67 [.bool false, .int .u16 ((em8 a).v.toNat : Int), .int .u16 ((em8 b).v.toNat : Int)] w fun v w' => v = .int .u16 ((em8 (a * b)).v.toNat : Int) ∧ w' = w := by
  refine run_culletref04_times (by simp) ?_
  simp only [c_culletref04_times, WS, List.getElem_cons_zero, List.getElem_cons_succ, Option.isNone_some, Option.isNone_none, List.getD_cons_zero, List.getD_cons_succ, I.at, atL, atO, atP, evp, evs, retV, ↓reduceIte, Nat.reduceEqDiff, reduceCtorEq]
  by_cases ha : a = 0
  · have d1 : decide (((em8 a).v.toNat : Int) = 0) = true := decide_eq_true ((em8_wz a).mpr ha)
    have e : (0 : Int) = ((em8 (a * b)).v.toNat : Int) := by rw [ha, El.zero_mul]; rfl
    simp only [WS, List.getElem_cons_zero, List.getElem_cons_succ, Option.isNone_some, Option.isNone_none, List.getD_cons_zero, List.getD_cons_succ, I.at, atL, atO, atP, evp, evs, retV, ↓reduceIte, Nat.reduceEqDiff, reduceCtorEq, d1]
    exact congrArg (Value.int .u16) e
  have d1 : decide (((em8 a).v.toNat : Int) = 0) = false := decide_eq_false (fun e => ha ((em8_wz a).mp e))
  by_cases hb : b = 0
  · have d2 : decide (((em8 b).v.toNat : Int) = 0) = true := decide_eq_true ((em8_wz b).mpr hb)
    have e : (0 : Int) = ((em8 (a * b)).v.toNat : Int) := by rw [hb, El.mul_zero]; rfl
    simp only [WS, List.getElem_cons_zero, List.getElem_cons_succ, Option.isNone_some, Option.isNone_none, List.getD_cons_zero, List.getD_cons_succ, I.at, atL, atO, atP, evp, evs, retV, ↓reduceIte, Nat.reduceEqDiff, reduceCtorEq, d1, d2]
    exact congrArg (Value.int .u16) e
  have d2 : decide (((em8 b).v.toNat : Int) = 0) = false := decide_eq_false (fun e => hb ((em8_wz b).mp e))
  simp only [WS, List.getElem_cons_zero, List.getElem_cons_succ, Option.isNone_some, Option.isNone_none, List.getD_cons_zero, List.getD_cons_succ, I.at, atL, atO, atP, evp, evs, retV, ↓reduceIte, Nat.reduceEqDiff, reduceCtorEq, d1, d2]
  have la := a.v.isLt
  have lb := b.v.isLt
  have lab := (a * b).v.isLt
  have e1 : IntKind.u8.wrap ((em8 a).v.toNat : Int) = (a.v.toNat : Int) := by rw [em8_nat, wrap_u8 _ (by omega)]
  have e2 : IntKind.u8.wrap ((em8 b).v.toNat : Int) = (b.v.toNat : Int) := by rw [em8_nat, wrap_u8 _ (by omega)]
  have e3 : IntKind.u16.wrap ((a * b).v.toNat : Int) = ((em8 (a * b)).v.toNat : Int) := by rw [em8_nat, wrap_u16 _ (by omega)]
  simp only [WS, List.getElem_cons_zero, List.getElem_cons_succ, Option.isNone_some, Option.isNone_none, List.getD_cons_zero, List.getD_cons_succ, I.at, atL, atO, atP, evp, evs, retV, ↓reduceIte, Nat.reduceEqDiff, reduceCtorEq, e1, e2]
  refine X_call0 ((culletref02_Mul_spec w a b).mono ?_)
  rintro _ w' ⟨rfl, rfl⟩
  simp only [WS, List.getElem_cons_zero, List.getElem_cons_succ, Option.isNone_some, Option.isNone_none, List.getD_cons_zero, List.getD_cons_succ, I.at, atL, atO, atP, evp, evs, retV, ↓reduceIte, Nat.reduceEqDiff, reduceCtorEq, e3]
theorem culletref04_inverse_b_spec (w : World) (a : El 8) (h0 : a ≠ 0) : CallV Tryz.prog 74 [.bool false, .int .u16 ((em8 a).v.toNat : Int)] w fun v w' => v = .int .u16 ((em8 a.inv).v.toNat : Int) ∧ w' = w := by
  refine run_culletref04_inverse (by simp) ?_
  simp only [c_culletref04_inverse, WS, List.getElem_cons_zero, List.getElem_cons_succ, Option.isNone_some, Option.isNone_none, List.getD_cons_zero, List.getD_cons_succ, I.at, atL, atO, atP, evp, evs, retV, ↓reduceIte, Nat.reduceEqDiff, reduceCtorEq]
  have la := a.v.isLt
  have lab := (a.inv).v.isLt
  have e1 : IntKind.u8.wrap ((em8 a).v.toNat : Int) = (a.v.toNat : Int) := by rw [em8_nat, wrap_u8 _ (by omega)]
  have e3 : IntKind.u16.wrap ((a.inv).v.toNat : Int) = ((em8 a.inv).v.toNat : Int) := by rw [em8_nat, wrap_u16 _ (by omega)]
  simp only [WS, List.getElem_cons_zero, List.getElem_cons_succ, Option.isNone_some, Option.isNone_none, List.getD_cons_zero, List.getD_cons_succ, I.at, atL, atO, atP, evp, evs, retV, ↓reduceIte, Nat.reduceEqDiff, reduceCtorEq, e1]
  refine X_call0 ((culletref02_Inv_spec w a h0).mono ?_)
  rintro _ w' ⟨rfl, rfl⟩
  simp only [WS, List.getElem_cons_zero, List.getElem_cons_succ, Option.isNone_some, Option.isNone_none, List.getD_cons_zero, List.getD_cons_succ, I.at, atL, atO, atP, evp, evs, retV, ↓reduceIte, Nat.reduceEqDiff, reduceCtorEq, e3]
theorem culletref04_Eval_b_spec (w : World) (s : Value) (l : List (El 8)) (x : El 8) (h : Sl w s (l.map em8)) (hb : l.length ≤ 70368744175616) :
    CallV Tryz.prog 40 [.bool false, s, .int .u16 ((em8 x).v.toNat : Int)] w fun v w' => v = .int .u16 ((em8 (evl l x)).v.toNat : Int) ∧ w' = w := by
  refine run_culletref04_Eval (by simp) ?_
  simp only [c_culletref04_Eval, WS, List.getElem_cons_zero, List.getElem_cons_succ, Option.isNone_some, Option.isNone_none, List.getD_cons_zero, List.getD_cons_succ, I.at, atL, atO, atP, evp, evs, retV, ↓reduceIte, Nat.reduceEqDiff, reduceCtorEq]
  have hml : (l.map em8).length = l.length := List.length_map ..
  refine loop_of (fun t w' => w' = w ∧ t 0 = .bool false ∧ t 1 = s ∧ t 2 = .int .u16 ((em8 x).v.toNat : Int) ∧ ∃ (i : Nat) (v p : El 8), t 9 = .int .i64 (i : Int) ∧ i ≤ l.length ∧ t 7 = .int .u16 ((em8 v).v.toNat : Int) ∧ t 8 = .int .u16 ((em8 p).v.toNat : Int) ∧ v + p * evl (l.drop i) x = evl l x) (fun t _ => l.length - (toI (t 9)).toNat)
    ⟨rfl, by simp only [WS, List.getElem_cons_zero, List.getElem_cons_succ, Option.isNone_some, Option.isNone_none, List.getD_cons_zero, List.getD_cons_succ, I.at, atL, atO, atP, evp, evs, retV, ↓reduceIte, Nat.reduceEqDiff, reduceCtorEq], by simp only [WS, List.getElem_cons_zero, List.getElem_cons_succ, Option.isNone_some, Option.isNone_none, List.getD_cons_zero, List.getD_cons_succ, I.at, atL, atO, atP, evp, evs, retV, ↓reduceIte, Nat.reduceEqDiff, reduceCtorEq], by simp only [WS, List.getElem_cons_zero, List.getElem_cons_succ, Option.isNone_some, Option.isNone_none, List.getD_cons_zero, List.getD_cons_succ, I.at, atL, atO, atP, evp, evs, retV, ↓reduceIte, Nat.reduceEqDiff, reduceCtorEq], 0, 0, 1, rfl, by omega, rfl, rfl, by rw [List.drop_zero, El.one_mul, El.zero_add]⟩ ?_
  rintro t w' ⟨rfl, t0, t1, t2, i, v, p, t9, hi, t7, t8, hv⟩
  by_cases hlt : i < l.length
  · have hlt2 : i < (l.map em8).length := by omega
    have hg : (l.map em8)[i] = em8 l[i] := List.getElem_map ..
    simp (maxSteps := 1000000) (disch := omega) only [WS, List.getElem_cons_zero, List.getElem_cons_succ, Option.isNone_some, Option.isNone_none, List.getD_cons_zero, List.getD_cons_succ, I.at, atL, atO, atP, evp, evs, retV, ↓reduceIte, Nat.reduceEqDiff, reduceCtorEq, AS, t0, t1, t2, t7, t8, t9, h.Xlen, hml, h.Xix hlt2, h.Xld hlt2, hg, cell_e16]
    refine X_call0 ((culletref04_timesx_b_spec w' l[i] p).mono ?_)
    rintro _ w2 ⟨rfl, rfl⟩
    simp (maxSteps := 1000000) (disch := omega) only [WS, List.getElem_cons_zero, List.getElem_cons_succ, Option.isNone_some, Option.isNone_none, List.getD_cons_zero, List.getD_cons_succ, I.at, atL, atO, atP, evp, evs, retV, ↓reduceIte, Nat.reduceEqDiff, reduceCtorEq, AS, t0, t1, t2, t7, t8, t9, xor16, em8_add]
    refine X_call0 ((culletref04_timesx_b_spec w2 p x).mono ?_)
    rintro _ w3 ⟨rfl, rfl⟩
    simp (maxSteps := 1000000) (disch := omega) only [WS, List.getElem_cons_zero, List.getElem_cons_succ, Option.isNone_some, Option.isNone_none, List.getD_cons_zero, List.getD_cons_succ, I.at, atL, atO, atP, evp, evs, retV, ↓reduceIte, Nat.reduceEqDiff, reduceCtorEq, AS, t0, t1, t2, t7, t8, t9]
    refine ⟨⟨i + 1, v + l[i] * p, p * x, rfl, by omega, rfl, rfl, ?_⟩, by omega⟩
    rw [← hv, evl_drop x l hlt, El.mul_add]
    rw [show p * (x * evl (l.drop (i + 1)) x) = p * x * evl (l.drop (i + 1)) x from (El.mul_assoc _ _ _).symm, El.mul_comm l[i] p, El.add_assoc]
  · obtain rfl : i = l.length := by omega
    rw [List.drop_length] at hv
    have hv2 : v = evl l x := by rw [← hv]; show v = v + p * 0; rw [El.mul_zero, El.add_zero]
    rw [hv2] at t7
    simp (maxSteps := 1000000) (disch := omega) only [WS, List.getElem_cons_zero, List.getElem_cons_succ, Option.isNone_some, Option.isNone_none, List.getD_cons_zero, List.getD_cons_succ, I.at, atL, atO, atP, evp, evs, retV, ↓reduceIte, Nat.reduceEqDiff, reduceCtorEq, AS, t0, t1, t2, t7, t8, t9, h.Xlen, hml]
theorem culletref04_product_b_spec (w : World) (s1 s2 : Value) (l1 l2 : List (El 8)) (h1 : Sl w s1 (l1.map em8)) (h2 : Sl w s2 (l2.map em8)) (hb1 : l1.length ≤ 2097152) (hb2 : l2.length ≤ 2097152) :
    CallV Tryz.prog 70 [.bool false, s1, s2] w fun v w' => ∃ l : List (El 8), Ow w.heap.size w' v (l.map em8) ∧ tr l = l ∧ co l = co l1 * co l2 ∧ l.length ≤ l1.length + l2.length ∧ RowKit.Below w.heap.size w w' := by
  refine run_culletref04_product (by simp) ?_
  simp only [c_culletref04_product, WS, List.getElem_cons_zero, List.getElem_cons_succ, Option.isNone_some, Option.isNone_none, List.getD_cons_zero, List.getD_cons_succ, I.at, atL, atO, atP, evp, evs, retV, ↓reduceIte, Nat.reduceEqDiff, reduceCtorEq]
  have hm1 : (l1.map em8).length = l1.length := List.length_map ..
  have hm2 : (l2.map em8).length = l2.length := List.length_map ..
  simp (maxSteps := 1000000) (disch := omega) only [WS, List.getElem_cons_zero, List.getElem_cons_succ, Option.isNone_some, Option.isNone_none, List.getD_cons_zero, List.getD_cons_succ, I.at, atL, atO, atP, evp, evs, retV, ↓reduceIte, Nat.reduceEqDiff, reduceCtorEq, AS, h1.Xlen, h2.Xlen, hm1, hm2]
  refine X_mks (x := (0 : El 16)) (by simp only [maxBytes]; omega) (by omega) fun p w1 ho hB => ?_
  have hz : List.replicate (l1.length + l2.length) (0 : El 16) = (List.replicate (l1.length + l2.length) (0 : El 8)).map em8 := by rw [List.map_replicate]; rfl
  rw [hz] at ho
  simp (maxSteps := 1000000) (disch := omega) only [WS, List.getElem_cons_zero, List.getElem_cons_succ, Option.isNone_some, Option.isNone_none, List.getD_cons_zero, List.getD_cons_succ, I.at, atL, atO, atP, evp, evs, retV, ↓reduceIte, Nat.reduceEqDiff, reduceCtorEq, AS]
  refine loop_of (fun t w2 => t 0 = .bool false ∧ t 1 = s1 ∧ t 2 = s2 ∧ t 7 = p ∧ RowKit.Below w.heap.size w w2 ∧ ∃ (i : Nat) (ls : List (El 8)), t 8 = .int .i64 (i : Int) ∧ i ≤ l1.length ∧ Ow w.heap.size w2 p (ls.map em8) ∧ ls.length = l1.length + l2.length ∧ co ls = co (l1.take i) * co l2)
    (fun t _ => l1.length - (toI (t 8)).toNat) ⟨by simp only [WS, List.getElem_cons_zero, List.getElem_cons_succ, Option.isNone_some, Option.isNone_none, List.getD_cons_zero, List.getD_cons_succ, I.at, atL, atO, atP, evp, evs, retV, ↓reduceIte, Nat.reduceEqDiff, reduceCtorEq], by simp only [WS, List.getElem_cons_zero, List.getElem_cons_succ, Option.isNone_some, Option.isNone_none, List.getD_cons_zero, List.getD_cons_succ, I.at, atL, atO, atP, evp, evs, retV, ↓reduceIte, Nat.reduceEqDiff, reduceCtorEq], by simp only [WS, List.getElem_cons_zero, List.getElem_cons_succ, Option.isNone_some, Option.isNone_none, List.getD_cons_zero, List.getD_cons_succ, I.at, atL, atO, atP, evp, evs, retV, ↓reduceIte, Nat.reduceEqDiff, reduceCtorEq], by simp only [WS, List.getElem_cons_zero, List.getElem_cons_succ, Option.isNone_some, Option.isNone_none, List.getD_cons_zero, List.getD_cons_succ, I.at, atL, atO, atP, evp, evs, retV, ↓reduceIte, Nat.reduceEqDiff, reduceCtorEq], hB, 0, _, rfl, by omega, ho, List.length_replicate .., by rw [List.take_zero, co_nil, Ps.zero_mul, co_replicate]⟩ ?_
  clear ho hB hz
  rintro t w2 ⟨t0, t1, t2, t7, B, i, ls, t8, hi, ho, hll, hc⟩
  by_cases hlt : i < l1.length
  · have g1 := h1.up B
    have hlt2 : i < (l1.map em8).length := by omega
    have hg1 : (l1.map em8)[i] = em8 l1[i] := List.getElem_map ..
    by_cases hx : l1[i] = 0
    · have d1 : (!decide (((em8 l1[i]).v.toNat : Int) = 0)) = false := by rw [decide_eq_true ((em8_wz _).mpr hx)]; rfl
      simp (maxSteps := 1000000) (disch := omega) only [WS, List.getElem_cons_zero, List.getElem_cons_succ, Option.isNone_some, Option.isNone_none, List.getD_cons_zero, List.getD_cons_succ, I.at, atL, atO, atP, evp, evs, retV, ↓reduceIte, Nat.reduceEqDiff, reduceCtorEq, AS, t0, t1, t2, t7, t8, g1.Xlen, hm1, g1.Xix hlt2, g1.Xld hlt2, hg1, cell_e16, d1]
      refine ⟨⟨B, i + 1, ls, rfl, by omega, ho, hll, ?_⟩, by omega⟩
      rw [hc, co_take_succ _ hlt, hx, mono_zero, Ps.add_zero]
    · have d1 : (!decide (((em8 l1[i]).v.toNat : Int) = 0)) = true := by rw [decide_eq_false (fun e => hx ((em8_wz _).mp e))]; rfl
      simp (maxSteps := 1000000) (disch := omega) only [WS, List.getElem_cons_zero, List.getElem_cons_succ, Option.isNone_some, Option.isNone_none, List.getD_cons_zero, List.getD_cons_succ, I.at, atL, atO, atP, evp, evs, retV, ↓reduceIte, Nat.reduceEqDiff, reduceCtorEq, AS, t0, t1, t2, t7, t8, g1.Xlen, hm1, g1.Xix hlt2, g1.Xld hlt2, hg1, cell_e16, d1]
      refine loop_of (fun t w2 => t 0 = .bool false ∧ t 1 = s1 ∧ t 2 = s2 ∧ t 7 = p ∧ t 8 = .int .i64 (i : Int) ∧ RowKit.Below w.heap.size w w2 ∧ ∃ (j : Nat) (ls : List (El 8)), t 9 = .int .i64 (j : Int) ∧ j ≤ l2.length ∧
          Ow w.heap.size w2 p (ls.map em8) ∧ ls.length = l1.length + l2.length ∧ ∀ k, (co ls).c k = (co (l1.take i) * co l2).c k + (if i ≤ k ∧ k < i + j then l1[i] * (co l2).c (k - i) else 0))
        (fun t _ => l2.length - (toI (t 9)).toNat) ⟨by simp only [WS, List.getElem_cons_zero, List.getElem_cons_succ, Option.isNone_some, Option.isNone_none, List.getD_cons_zero, List.getD_cons_succ, I.at, atL, atO, atP, evp, evs, retV, ↓reduceIte, Nat.reduceEqDiff, reduceCtorEq]; exact t0, by simp only [WS, List.getElem_cons_zero, List.getElem_cons_succ, Option.isNone_some, Option.isNone_none, List.getD_cons_zero, List.getD_cons_succ, I.at, atL, atO, atP, evp, evs, retV, ↓reduceIte, Nat.reduceEqDiff, reduceCtorEq]; exact t1, by simp only [WS, List.getElem_cons_zero, List.getElem_cons_succ, Option.isNone_some, Option.isNone_none, List.getD_cons_zero, List.getD_cons_succ, I.at, atL, atO, atP, evp, evs, retV, ↓reduceIte, Nat.reduceEqDiff, reduceCtorEq]; exact t2, by simp only [WS, List.getElem_cons_zero, List.getElem_cons_succ, Option.isNone_some, Option.isNone_none, List.getD_cons_zero, List.getD_cons_succ, I.at, atL, atO, atP, evp, evs, retV, ↓reduceIte, Nat.reduceEqDiff, reduceCtorEq]; exact t7, by simp only [WS, List.getElem_cons_zero, List.getElem_cons_succ, Option.isNone_some, Option.isNone_none, List.getD_cons_zero, List.getD_cons_succ, I.at, atL, atO, atP, evp, evs, retV, ↓reduceIte, Nat.reduceEqDiff, reduceCtorEq]; exact t8, B, 0, ls, rfl, by omega, ho, hll, fun k => by rw [hc, if_neg (by omega), El.add_zero]⟩ ?_
      clear ho hc hll B t0 t1 t2 t7 t8 g1
      rintro t w3 ⟨t0, t1, t2, t7, t8, B, j, ls, t9, hj, ho, hll, hc⟩
      have g2 := h2.up B
      have g1 := h1.up B
      by_cases hjl : j < l2.length
      · have hij : i + j < ls.length := by omega
        have hijm : i + j < (ls.map em8).length := by rw [List.length_map]; exact hij
        have hjl2 : j < (l2.map em8).length := by omega
        have hg2 : (l2.map em8)[j] = em8 l2[j] := List.getElem_map ..
        have hgs : (ls.map em8)[i + j] = em8 ls[i + j] := List.getElem_map ..
        simp (maxSteps := 1000000) (disch := omega) only [WS, List.getElem_cons_zero, List.getElem_cons_succ, Option.isNone_some, Option.isNone_none, List.getD_cons_zero, List.getD_cons_succ, I.at, atL, atO, atP, evp, evs, retV, ↓reduceIte, Nat.reduceEqDiff, reduceCtorEq, AS, t0, t1, t2, t7, t8, t9, g2.Xlen, hm2]
        refine WP_dops ?_
        have hos := ho.sl.drew
        have g1d := g1.drew
        have g2d := g2.drew
        have see : Fw.sees Tryz.prog (.ld (.c (elP p (i + j)))) w3.drew (.int .u16 ((em8 ls[i + j]).v.toNat : Int)) = True := by rw [← hgs]; exact hos.sees hijm Tryz.prog
        have see1 : Fw.sees Tryz.prog (.ld (.c (elP s1 i))) w3.drew (.int .u16 ((em8 l1[i]).v.toNat : Int)) = True := by rw [← hg1]; exact g1d.sees hlt2 Tryz.prog
        have see2 : Fw.sees Tryz.prog (.ld (.c (elP s2 j))) w3.drew (.int .u16 ((em8 l2[j]).v.toNat : Int)) = True := by rw [← hg2]; exact g2d.sees hjl2 Tryz.prog
        simp (maxSteps := 1000000) (disch := omega) only [ES, List.mem_cons, List.not_mem_nil, implies_true, forall_const, WS, List.getElem_cons_zero, List.getElem_cons_succ, Option.isNone_some, Option.isNone_none, List.getD_cons_zero, List.getD_cons_succ, I.at, atL, atO, atP, evp, evs, retV, ↓reduceIte, Nat.reduceEqDiff, reduceCtorEq, AS, t0, t1, t2, t7, t8, t9, hos.Eix hijm, hos.Eld hijm, g1d.Eix hlt2, g1d.Eld hlt2, g2d.Eix hjl2, g2d.Eld hjl2, hg1, hg2, hgs, cell_e16]
        refine E_call0 ((culletref04_timesx_b_spec w3.drew l1[i] l2[j]).mono ?_)
        rintro _ w4 ⟨rfl, rfl⟩
        simp (maxSteps := 1000000) (disch := omega) only [ES, List.mem_cons, List.not_mem_nil, implies_true, forall_const, WS, List.getElem_cons_zero, List.getElem_cons_succ, Option.isNone_some, Option.isNone_none, List.getD_cons_zero, List.getD_cons_succ, I.at, atL, atO, atP, evp, evs, retV, ↓reduceIte, Nat.reduceEqDiff, reduceCtorEq, AS, t0, t1, t2, t7, t8, t9, see, see1, see2, hos.Eix hijm, hos.Eld hijm, hgs, cell_e16, xor16, em8_add]
        refine Ow.Est ho.drew hijm (em8 (ls[i + j] + l1[i] * l2[j])) fun w5 ho5 hg5 => ?_
        rw [← List.map_set] at ho5
        simp (maxSteps := 1000000) (disch := omega) only [ES, List.mem_cons, List.not_mem_nil, implies_true, forall_const, WS, List.getElem_cons_zero, List.getElem_cons_succ, Option.isNone_some, Option.isNone_none, List.getD_cons_zero, List.getD_cons_succ, I.at, atL, atO, atP, evp, evs, retV, ↓reduceIte, Nat.reduceEqDiff, reduceCtorEq, AS, t0, t1, t2, t7, t8, t9]
        refine ⟨⟨B.grown (grown_of_drew hg5) B.size fun b hb => (ho.blk b hb).1, j + 1, _, rfl, by omega, ho5, by simp [hll], fun k => ?_⟩, by omega⟩
        rw [co_set _ hij, hc k]
        by_cases hk : k = i + j
        · subst hk
          rw [if_pos rfl, if_pos ⟨by omega, by omega⟩]
          have := hc (i + j)
          rw [if_neg (by omega), El.add_zero, co_get ls hij] at this
          rw [this, show i + j - i = j by omega, co_get _ hjl]
        · rw [if_neg hk]
          have : (i ≤ k ∧ k < i + (j + 1)) = (i ≤ k ∧ k < i + j) := propext ⟨fun h => by omega, fun h => by omega⟩
          simp only [this]
      · simp (maxSteps := 1000000) (disch := omega) only [WS, List.getElem_cons_zero, List.getElem_cons_succ, Option.isNone_some, Option.isNone_none, List.getD_cons_zero, List.getD_cons_succ, I.at, atL, atO, atP, evp, evs, retV, ↓reduceIte, Nat.reduceEqDiff, reduceCtorEq, AS, t0, t1, t2, t7, t8, t9, g2.Xlen, hm2]
        refine ⟨⟨B, i + 1, ls, rfl, by omega, ho, hll, ?_⟩, by omega⟩
        rw [co_take_succ _ hlt, Ps.add_mul]
        refine Ps.ext fun k => ?_
        rw [hc k, Ps.add_c, Ps.mono_mul]
        congr 1
        by_cases hik : i ≤ k
        · rw [if_pos hik]
          by_cases hk2 : k < i + j
          · rw [if_pos ⟨hik, hk2⟩]
          · rw [if_neg (by omega), co_dg l2 (k - i) (by omega), El.mul_zero]
        · rw [if_neg (by omega), if_neg hik]
  · obtain rfl : i = l1.length := by omega
    rw [List.take_length] at hc
    have hmm : (ls.map em8).length ≤ 70368744175616 := by rw [List.length_map]; omega
    simp (maxSteps := 1000000) (disch := omega) only [WS, List.getElem_cons_zero, List.getElem_cons_succ, Option.isNone_some, Option.isNone_none, List.getD_cons_zero, List.getD_cons_succ, I.at, atL, atO, atP, evp, evs, retV, ↓reduceIte, Nat.reduceEqDiff, reduceCtorEq, AS, t0, t1, t2, t7, t8, (h1.up B).Xlen, hm1]
    refine X_call0 ((culletref04_Trim_spec w2 p (ls.map em8) ho.sl hmm).mono ?_)
    rintro v w3 ⟨o3, hB⟩
    rw [tr_em8] at o3
    simp (maxSteps := 1000000) (disch := omega) only [WS, List.getElem_cons_zero, List.getElem_cons_succ, Option.isNone_some, Option.isNone_none, List.getD_cons_zero, List.getD_cons_succ, I.at, atL, atO, atP, evp, evs, retV, ↓reduceIte, Nat.reduceEqDiff, reduceCtorEq, AS]
    exact ⟨tr ls, o3.mono B.size, tr_tr ls, by rw [tr_co, hc], by rw [tr_len]; have := tln_le ls; omega, B.trans (hB.mono B.size)⟩
theorem culletref04_Mulx_b_spec (w : World) (s1 s2 : Value) (l1 l2 : List (El 8)) (h1 : Sl w s1 (l1.map em8)) (h2 : Sl w s2 (l2.map em8)) (hb1 : l1.length ≤ 70368744175616) (hb2 : l2.length ≤ 70368744175616) :
    CallV Tryz.prog 43 [.bool false, s1, s2] w fun v w' => RowKit.Below w.heap.size w w' ∧
      ((l1.length ≤ 1024 ∧ l2.length ≤ 1024 ∧ ∃ (s : Value) (l : List (El 8)), v = .tuple #[s, .int .i64 0] ∧ Ow w.heap.size w' s (l.map em8) ∧ tr l = l ∧ co l = co l1 * co l2) ∨
       (¬ (l1.length ≤ 1024 ∧ l2.length ≤ 1024) ∧ v = .tuple #[.slice none 0 0, .int .i64 5])) := by
  refine run_culletref04_Mul (by simp) ?_
  simp only [c_culletref04_Mul, WS, List.getElem_cons_zero, List.getElem_cons_succ, Option.isNone_some, Option.isNone_none, List.getD_cons_zero, List.getD_cons_succ, I.at, atL, atO, atP, evp, evs, retV, ↓reduceIte, Nat.reduceEqDiff, reduceCtorEq]
  have hm1 : (l1.map em8).length = l1.length := List.length_map ..
  have hm2 : (l2.map em8).length = l2.length := List.length_map ..
  by_cases c1 : 1024 < l1.length
  · simp (maxSteps := 1000000) (disch := omega) only [WS, List.getElem_cons_zero, List.getElem_cons_succ, Option.isNone_some, Option.isNone_none, List.getD_cons_zero, List.getD_cons_succ, I.at, atL, atO, atP, evp, evs, retV, ↓reduceIte, Nat.reduceEqDiff, reduceCtorEq, AS, h1.Xlen, hm1]
    exact ⟨RowKit.Below.refl _ _, Or.inr (by omega)⟩
  by_cases c2 : 1024 < l2.length
  · simp (maxSteps := 1000000) (disch := omega) only [WS, List.getElem_cons_zero, List.getElem_cons_succ, Option.isNone_some, Option.isNone_none, List.getD_cons_zero, List.getD_cons_succ, I.at, atL, atO, atP, evp, evs, retV, ↓reduceIte, Nat.reduceEqDiff, reduceCtorEq, AS, h1.Xlen, h2.Xlen, hm1, hm2]
    exact ⟨RowKit.Below.refl _ _, Or.inr (by omega)⟩
  simp (maxSteps := 1000000) (disch := omega) only [WS, List.getElem_cons_zero, List.getElem_cons_succ, Option.isNone_some, Option.isNone_none, List.getD_cons_zero, List.getD_cons_succ, I.at, atL, atO, atP, evp, evs, retV, ↓reduceIte, Nat.reduceEqDiff, reduceCtorEq, AS, h1.Xlen, h2.Xlen, hm1, hm2]
  refine X_call0 ((culletref04_product_b_spec w s1 s2 l1 l2 h1 h2 (by omega) (by omega)).mono ?_)
  rintro v w' ⟨l, ol, tl, cl, ll, hB⟩
  simp (maxSteps := 1000000) (disch := omega) only [WS, List.getElem_cons_zero, List.getElem_cons_succ, Option.isNone_some, Option.isNone_none, List.getD_cons_zero, List.getD_cons_succ, I.at, atL, atO, atP, evp, evs, retV, ↓reduceIte, Nat.reduceEqDiff, reduceCtorEq, AS]
  exact ⟨hB, Or.inl ⟨by omega, by omega, v, l, rfl, ol, tl, cl⟩⟩
end Go.Proofs.YtcdagkcchfibjaaGreat.Fw
