import Derived.Test.YtbaljbadlfopgaaProg
import Derived.Test.YtbaljbadlfopgaaFwTQ
import Derived.Test.YtbaljbadlfopgaaSRB0Q
import Derived.Test.YtbaljbadlfopgaaGfXQ
import Derived.Test.YtbaljbadlfopgaaGfEQ
set_option linter.all false
set_option linter.unusedVariables false
set_option linter.unusedSimpArgs false
set_option maxRecDepth 100000
set_option maxHeartbeats 1000000
namespace Go.Proofs.Ytbaljbadlfopgaa.Fw
open Go Go.Fw Go.Proofs
attribute [local irreducible] stepI
def c_culletref04_Trim : C := .seq (.ops [⟨0,some 2,none,.mov (.c (.slice none 0 0)),[]⟩]) (.seq (.ops [⟨0,some 5,none,.mov (.t 0),[]⟩,⟨1,some 6,none,.len (.t 5),[]⟩,⟨2,some 3,none,.mov (.t 6),[]⟩]) (.seq (.block 0 (.loop (.seq (.seq (.ops [⟨0,some 7,none,.mov (.t 3),[]⟩,⟨1,some 8,none,.bin .gtr (.t 7) (.c (.int .i64 0)),[]⟩,⟨2,some 9,none,.mov (.t 8),[]⟩,⟨3,some 10,(some (9,true)),.mov (.t 0),[]⟩,⟨4,some 11,(some (9,true)),.mov (.t 3),[]⟩,⟨5,some 12,(some (9,true)),.bin .sub (.t 11) (.c (.int .i64 1)),[]⟩,⟨6,some 13,(some (9,true)),.ixs 1 (.t 10) (.t 12),[]⟩,⟨7,some 14,(some (9,true)),.ld (.t 13),[]⟩,⟨8,some 15,(some (9,true)),.bin .eql (.t 14) (.c (.int .u16 0)),[]⟩,⟨9,some 16,none,.pick (.t 9) (.t 15) (.c (.bool false)),[]⟩]) (.ite (.t 16) .skip (.exit 0))) (.block 1 (.ops [⟨0,some 17,none,.mov (.t 3),[]⟩,⟨1,some 18,none,.bin .sub (.t 17) (.c (.int .i64 1)),[]⟩,⟨2,some 3,none,.mov (.t 18),[]⟩]))))) (.seq (.ops [⟨0,some 19,none,.mov (.t 3),[]⟩,⟨1,some 20,none,.mks 73 2 [.int .u16 0] (.t 19) (.t 19),[]⟩,⟨2,some 4,none,.mov (.t 20),[]⟩]) (.seq (.ops [⟨0,some 21,none,.mov (.t 4),[]⟩,⟨1,some 22,none,.mov (.t 0),[]⟩,⟨2,some 23,none,.cpy 1 (.t 21) (.t 22),[]⟩]) (.seq (.ops [⟨0,some 24,none,.mov (.t 4),[]⟩,⟨1,some 2,none,.mov (.t 24),[]⟩]) .ret)))))
attribute [irreducible] c_culletref04_Trim
theorem run_culletref04_Trim {args : List Value} {w : World} {K : Value → World → Prop} (hn : args.length ≤ 25) (h : WP Try.prog c_culletref04_Trim (endQ [.t 2] K) (initT args) w) : CallV Try.prog 122 args w K :=
  call_of follows Try.func122 (by kernel_rfl) (by kernel_rfl) hn h
def c_culletref04_Degree : C := .seq (.ops [⟨0,some 2,none,.mov (.c (.int .i64 0)),[]⟩]) (.seq (.seq (.ops [⟨0,some 4,none,.mov (.t 0),[]⟩,⟨1,some 5,none,.len (.t 4),[]⟩,⟨2,some 6,none,.bin .sub (.t 5) (.c (.int .i64 1)),[]⟩,⟨3,some 3,none,.mov (.t 6),[]⟩]) (.block 0 (.loop (.seq (.seq (.ops [⟨0,some 7,none,.mov (.t 3),[]⟩,⟨1,some 8,none,.bin .geq (.t 7) (.c (.int .i64 0)),[]⟩]) (.ite (.t 8) .skip (.exit 0))) (.seq (.block 1 (.seq (.ops [⟨0,some 11,none,.mov (.t 0),[]⟩,⟨1,some 12,none,.mov (.t 3),[]⟩,⟨2,some 13,none,.ixs 1 (.t 11) (.t 12),[]⟩,⟨3,some 14,none,.ld (.t 13),[]⟩,⟨4,some 15,none,.bin .neq (.t 14) (.c (.int .u16 0)),[]⟩]) (.ite (.t 15) (.seq (.ops [⟨0,some 16,none,.mov (.t 3),[]⟩,⟨1,some 2,none,.mov (.t 16),[]⟩]) .ret) .skip))) (.ops [⟨0,some 9,none,.mov (.t 3),[]⟩,⟨1,some 10,none,.bin .sub (.t 9) (.c (.int .i64 1)),[]⟩,⟨2,some 3,none,.mov (.t 10),[]⟩])))))) (.seq (.ops [⟨0,some 2,none,.mov (.c (.int .i64 (-1))),[]⟩]) .ret))
attribute [irreducible] c_culletref04_Degree
theorem run_culletref04_Degree {args : List Value} {w : World} {K : Value → World → Prop} (hn : args.length ≤ 17) (h : WP Try.prog c_culletref04_Degree (endQ [.t 2] K) (initT args) w) : CallV Try.prog 150 args w K :=
  call_of follows Try.func150 (by kernel_rfl) (by kernel_rfl) hn h
end Go.Proofs.Ytbaljbadlfopgaa.Fw
namespace Go.Proofs.Ytbaljbadlfopgaa.Fw
open Go Go.Fw
theorem culletref04_Trim_spec (w : World) (s : Value) (l : List (El 16)) (h : Sl w s l) (hb : l.length ≤ 70368744175616) : CallV Try.prog 122 [s] w fun v w' => Ow w.heap.size w' v (tr l) ∧ RowKit.Below w.heap.size w w' := by
  have hle := tln_le l
  refine run_culletref04_Trim (by simp) ?_
  simp only [c_culletref04_Trim, WS, ↓reduceIte, Nat.reduceEqDiff, reduceCtorEq, h.Xlen]
  refine loop_of (fun t w' => w' = w ∧ t 0 = s ∧ ∃ k : Nat, t 3 = .int .i64 (k : Int) ∧ tln l ≤ k ∧ k ≤ l.length) (fun t _ => (toI (t 3)).toNat) ⟨rfl, by simp only [WS, ↓reduceIte, Nat.reduceEqDiff, reduceCtorEq], l.length, rfl, hle, Nat.le_refl _⟩ ?_
  rintro t w' ⟨rfl, t0, k, t3, hk, hkl⟩
  have fin : ∀ (hk' : k = tln l), True := fun _ => trivial
  by_cases hk0 : k = 0
  · subst hk0
    have hz : tln l = 0 := by omega
    have htr : tr l = [] := List.eq_nil_of_length_eq_zero (by rw [tr_len, hz])
    simp (maxSteps := 1000000) (disch := omega) only [WS, ↓reduceIte, Nat.reduceEqDiff, reduceCtorEq, AS, t0, t3, show decide ((0 : Int) < ((0 : Nat) : Int)) = false from rfl]
    refine X_mks (x := (0 : El 16)) (n := 0) (by simp only [maxBytes]; omega) (by omega) fun p w1 ho hB => ?_
    simp (maxSteps := 1000000) (disch := omega) only [WS, ↓reduceIte, Nat.reduceEqDiff, reduceCtorEq, AS, t0, t3]
    refine ho.Xcpy (h.up hB) fun w2 ho2 hg => ?_
    simp (maxSteps := 1000000) (disch := omega) only [WS, ↓reduceIte, Nat.reduceEqDiff, reduceCtorEq, AS]
    refine ⟨?_, hB.grown hg hB.size fun b hb => (ho.blk b hb).1⟩
    rw [htr]
    simpa using ho2
  have k1 : k - 1 < l.length := by omega
  by_cases hz : l[k - 1] = 0
  · have d1 : decide ((l[k - 1].v.toNat : Int) = 0) = true := decide_eq_true ((el_zero _).mpr hz)
    have hne : tln l ≠ k := fun e => tln_top l (k - 1) (by omega) (by rw [co_get l k1]; exact hz)
    simp (maxSteps := 1000000) (disch := omega) only [WS, ↓reduceIte, Nat.reduceEqDiff, reduceCtorEq, AS, t0, t3, h.Xix k1, h.Xld k1, cell_e16, d1]
    exact ⟨⟨k - 1, rfl, by omega, by omega⟩, by omega⟩
  · have d1 : decide ((l[k - 1].v.toNat : Int) = 0) = false := decide_eq_false (fun e => hz ((el_zero _).mp e))
    have hkt : tln l = k := by
      rcases Nat.lt_or_ge (tln l) k with hlt | hge
      · exact absurd (tln_dg l (k - 1) (by omega)) (by rw [co_get l k1]; exact hz)
      · omega
    simp (maxSteps := 1000000) (disch := omega) only [WS, ↓reduceIte, Nat.reduceEqDiff, reduceCtorEq, AS, t0, t3, h.Xix k1, h.Xld k1, cell_e16, d1]
    refine X_mks (x := (0 : El 16)) (n := k) (by simp only [maxBytes]; omega) (by omega) fun p w1 ho hB => ?_
    simp (maxSteps := 1000000) (disch := omega) only [WS, ↓reduceIte, Nat.reduceEqDiff, reduceCtorEq, AS, t0, t3]
    refine ho.Xcpy (h.up hB) fun w2 ho2 hg => ?_
    simp (maxSteps := 1000000) (disch := omega) only [WS, ↓reduceIte, Nat.reduceEqDiff, reduceCtorEq, AS]
    refine ⟨?_, hB.grown hg hB.size fun b hb => (ho.blk b hb).1⟩
    rw [List.length_replicate, List.drop_of_length_le (by simp; omega), List.append_nil, ← hkt] at ho2
    exact ho2
theorem culletref04_Degree_spec (w : World) (s : Value) (l : List (El 16)) (h : Sl w s l) (hb : l.length ≤ 70368744175616) : CallV Try.prog 150 [s] w fun v w' => v = .int .i64 ((tln l : Int) - 1) ∧ w' = w := by
  have hle := tln_le l
  refine run_culletref04_Degree (by simp) ?_
  have e0 : IntKind.i64.wrap ((l.length : Int) - 1) = (l.length : Int) - 1 := wrap_id (by omega) (by omega)
  simp only [c_culletref04_Degree, WS, ↓reduceIte, Nat.reduceEqDiff, reduceCtorEq, h.Xlen, e0]
  refine loop_of (fun t w' => w' = w ∧ t 0 = s ∧ ∃ k : Nat, t 3 = .int .i64 ((k : Int) - 1) ∧ tln l ≤ k ∧ k ≤ l.length) (fun t _ => (toI (t 3) + 1).toNat) ⟨rfl, by simp only [WS, ↓reduceIte, Nat.reduceEqDiff, reduceCtorEq], l.length, rfl, hle, Nat.le_refl _⟩ ?_
  rintro t w' ⟨rfl, t0, k, t3, hk, hkl⟩
  cases k with
  | zero =>
    have hz : tln l = 0 := by omega
    simp only [WS, ↓reduceIte, Nat.reduceEqDiff, reduceCtorEq, t0, t3, show decide ((0 : Int) ≤ ((0 : Nat) : Int) - 1) = false from rfl, hz]
    simp
  | succ k =>
    rw [show ((k + 1 : Nat) : Int) - 1 = (k : Int) by omega] at t3
    have k1 : k < l.length := by omega
    have e1 : IntKind.i64.wrap ((k : Int) - 1) = (k : Int) - 1 := wrap_id (by omega) (by omega)
    by_cases hz : l[k] = 0
    · have d1 : (!decide ((l[k].v.toNat : Int) = 0)) = false := by rw [decide_eq_true ((el_zero _).mpr hz)]; rfl
      have hne : tln l ≠ k + 1 := fun e => tln_top l k e (by rw [co_get l k1]; exact hz)
      simp only [WS, ↓reduceIte, Nat.reduceEqDiff, reduceCtorEq, t0, t3, show decide ((0 : Int) ≤ (k : Int)) = true from decide_eq_true (by omega), h.Xix k1, h.Xld k1, cell_e16, d1, e1, toI_int]
      exact ⟨⟨k, rfl, by omega, by omega⟩, by omega⟩
    · have d1 : (!decide ((l[k].v.toNat : Int) = 0)) = true := by rw [decide_eq_false (fun e => hz ((el_zero _).mp e))]; rfl
      have hkt : tln l = k + 1 := by
        rcases Nat.lt_or_ge (tln l) (k + 1) with hlt | hge
        · exact absurd (tln_dg l k (by omega)) (by rw [co_get l k1]; exact hz)
        · omega
      simp only [WS, ↓reduceIte, Nat.reduceEqDiff, reduceCtorEq, t0, t3, show decide ((0 : Int) ≤ (k : Int)) = true from decide_eq_true (by omega), h.Xix k1, h.Xld k1, cell_e16, d1]
      rw [hkt, show ((k + 1 : Nat) : Int) - 1 = (k : Int) by omega]
theorem tln_em8x : ∀ l : List (El 8), tln (l.map em8) = tln l
  | [] => rfl
  | x :: l => by
    rw [List.map_cons]
    unfold tln
    rw [tln_em8x l]
    simp only [em8_eq0]
theorem tr_em8 (l : List (El 8)) : tr (l.map em8) = (tr l).map em8 := by unfold tr; rw [tln_em8x, List.map_take]
end Go.Proofs.Ytbaljbadlfopgaa.Fw

set_option linter.unusedVariables false
set_option linter.unusedSimpArgs false
set_option maxRecDepth 100000
set_option maxHeartbeats 1000000
namespace Go.Proofs.Ytbaljbadlfopgaa.Fw
open Go Go.Fw Go.Proofs
attribute [local irreducible] stepI
def c_culletref04_times : C := .seq (.ops [⟨0,some 6,none,.mov (.c (.int .u16 0)),[]⟩]) (.seq (.seq (.ops [⟨0,some 7,none,.mov (.t 1),[]⟩,⟨1,some 8,none,.bin .eql (.t 7) (.c (.int .u16 0)),[]⟩,⟨2,some 9,none,.mov (.t 8),[]⟩,⟨3,some 10,(some (9,false)),.mov (.t 2),[]⟩,⟨4,some 11,(some (9,false)),.bin .eql (.t 10) (.c (.int .u16 0)),[]⟩,⟨5,some 12,none,.pick (.t 9) (.c (.bool true)) (.t 11),[]⟩]) (.ite (.t 12) (.seq (.ops [⟨0,some 6,none,.mov (.c (.int .u16 0)),[]⟩]) .ret) .skip)) (.seq (.seq (.ops [⟨0,some 13,none,.mov (.t 0),[]⟩]) (.ite (.t 13) (.seq (.ops [⟨0,some 14,none,.mov (.t 1),[]⟩,⟨1,some 15,none,.mov (.t 2),[]⟩,⟨2,some 16,none,.call (.c (.func (.func 151) #[] #[])) [.t 14,.t 15],[]⟩,⟨3,some 6,none,.mov (.t 16),[]⟩]) .ret) .skip)) (.seq (.ops [⟨0,some 17,none,.mov (.t 1),[]⟩,⟨1,some 18,none,.cnv .u8 (.t 17),[]⟩,⟨2,some 19,none,.mov (.t 2),[]⟩,⟨3,some 20,none,.cnv .u8 (.t 19),[]⟩,⟨4,some 21,none,.call (.c (.func (.func 100) #[] #[])) [.t 18,.t 20],[]⟩,⟨5,some 22,none,.cnv .u16 (.t 21),[]⟩,⟨6,some 6,none,.mov (.t 22),[]⟩]) .ret)))
attribute [irreducible] c_culletref04_times
theorem run_culletref04_times {args : List Value} {w : World} {K : Value → World → Prop} (hn : args.length ≤ 23) (h : WP Try.prog c_culletref04_times (endQ [.t 6] K) (initT args) w) : CallV Try.prog 119 args w K :=
  call_of follows Try.func119 (by kernel_rfl) (by kernel_rfl) hn h
def c_culletref04_inverse : C := .seq (.ops [⟨0,some 4,none,.mov (.c (.int .u16 0)),[]⟩]) (.seq (.seq (.ops [⟨0,some 9,none,.mov (.t 0),[]⟩]) (.ite (.t 9) (.seq (.ops [⟨0,some 11,none,.mov (.t 1),[]⟩,⟨1,some 12,none,.call (.c (.func (.func 152) #[] #[])) [.t 11],[]⟩,⟨2,some 10,none,.mov (.t 12),[]⟩,⟨3,some 13,none,.ext (.t 10) 0,[]⟩,⟨4,some 14,none,.ext (.t 10) 1,[]⟩,⟨5,some 5,none,.mov (.t 13),[]⟩,⟨6,some 6,none,.mov (.t 14),[]⟩]) (.seq (.ops [⟨0,some 15,none,.mov (.t 5),[]⟩,⟨1,some 4,none,.mov (.t 15),[]⟩]) .ret)) .skip)) (.seq (.ops [⟨0,some 17,none,.mov (.t 1),[]⟩,⟨1,some 18,none,.cnv .u8 (.t 17),[]⟩,⟨2,some 19,none,.call (.c (.func (.func 136) #[] #[])) [.t 18],[]⟩,⟨3,some 16,none,.mov (.t 19),[]⟩,⟨4,some 20,none,.ext (.t 16) 0,[]⟩,⟨5,some 21,none,.ext (.t 16) 1,[]⟩,⟨6,some 7,none,.mov (.t 20),[]⟩,⟨7,some 8,none,.mov (.t 21),[]⟩]) (.seq (.ops [⟨0,some 22,none,.mov (.t 7),[]⟩,⟨1,some 23,none,.cnv .u16 (.t 22),[]⟩,⟨2,some 4,none,.mov (.t 23),[]⟩]) .ret)))
attribute [irreducible] c_culletref04_inverse
theorem run_culletref04_inverse {args : List Value} {w : World} {K : Value → World → Prop} (hn : args.length ≤ 24) (h : WP Try.prog c_culletref04_inverse (endQ [.t 4] K) (initT args) w) : CallV Try.prog 120 args w K :=
  call_of follows Try.func120 (by kernel_rfl) (by kernel_rfl) hn h
def c_culletref04_Eval : C := .seq (.ops [⟨0,some 6,none,.mov (.c (.int .u16 0)),[]⟩]) (.seq (.ops [⟨0,some 7,none,.mov (.c (.int .u16 0)),[]⟩]) (.seq (.ops [⟨0,some 8,none,.mov (.c (.int .u16 1)),[]⟩]) (.seq (.seq (.ops [⟨0,some 9,none,.mov (.c (.int .i64 0)),[]⟩]) (.block 0 (.loop (.seq (.seq (.ops [⟨0,some 10,none,.mov (.t 9),[]⟩,⟨1,some 11,none,.mov (.t 1),[]⟩,⟨2,some 12,none,.len (.t 11),[]⟩,⟨3,some 13,none,.bin .lss (.t 10) (.t 12),[]⟩]) (.ite (.t 13) .skip (.exit 0))) (.seq (.block 1 (.seq (.ops [⟨0,some 16,none,.mov (.t 7),[]⟩,⟨1,some 17,none,.mov (.t 0),[]⟩,⟨2,some 18,none,.mov (.t 1),[]⟩,⟨3,some 19,none,.mov (.t 9),[]⟩,⟨4,some 20,none,.ixs 1 (.t 18) (.t 19),[]⟩,⟨5,some 21,none,.ld (.t 20),[]⟩,⟨6,some 22,none,.mov (.t 8),[]⟩,⟨7,some 23,none,.call (.c (.func (.func 119) #[] #[])) [.t 17,.t 21,.t 22],[]⟩,⟨8,some 24,none,.bin .xor (.t 16) (.t 23),[]⟩,⟨9,some 7,none,.mov (.t 24),[]⟩]) (.ops [⟨0,some 25,none,.mov (.t 0),[]⟩,⟨1,some 26,none,.mov (.t 8),[]⟩,⟨2,some 27,none,.mov (.t 2),[]⟩,⟨3,some 28,none,.call (.c (.func (.func 119) #[] #[])) [.t 25,.t 26,.t 27],[]⟩,⟨4,some 8,none,.mov (.t 28),[]⟩]))) (.ops [⟨0,some 14,none,.mov (.t 9),[]⟩,⟨1,some 15,none,.bin .add (.t 14) (.c (.int .i64 1)),[]⟩,⟨2,some 9,none,.mov (.t 15),[]⟩])))))) (.seq (.ops [⟨0,some 29,none,.mov (.t 7),[]⟩,⟨1,some 6,none,.mov (.t 29),[]⟩]) .ret))))
attribute [irreducible] c_culletref04_Eval
theorem run_culletref04_Eval {args : List Value} {w : World} {K : Value → World → Prop} (hn : args.length ≤ 30) (h : WP Try.prog c_culletref04_Eval (endQ [.t 6] K) (initT args) w) : CallV Try.prog 121 args w K :=
  call_of follows Try.func121 (by kernel_rfl) (by kernel_rfl) hn h
end Go.Proofs.Ytbaljbadlfopgaa.Fw
namespace Go.Proofs.Ytbaljbadlfopgaa.Fw
open Go Go.Fw
end Go.Proofs.Ytbaljbadlfopgaa.Fw

namespace Go.Proofs.Ytbaljbadlfopgaa.Fw
open Go Go.Fw
theorem em8_wz (x : El 8) : (((em8 x).v.toNat : Int) = 0) = (x = 0) := by rw [el_zero]; exact em8_eq0 x
theorem culletref04_timesx_b_spec (w : World) (a b : El 8) : CallV Try.prog 119 [.bool false, .int .u16 ((em8 a).v.toNat : Int), .int .u16 ((em8 b).v.toNat : Int)] w fun v w' => v = .int .u16 ((em8 (a * b)).v.toNat : Int) ∧ w' = w := by
  refine run_culletref04_times (by simp) ?_
  simp only [c_culletref04_times, WS, ↓reduceIte, Nat.reduceEqDiff, reduceCtorEq]
  by_cases ha : a = 0
  · have d1 : decide (((em8 a).v.toNat : Int) = 0) = true := decide_eq_true ((em8_wz a).mpr ha)
    have e : (0 : Int) = ((em8 (a * b)).v.toNat : Int) := by rw [ha, El.zero_mul]; rfl
    simp only [WS, ↓reduceIte, Nat.reduceEqDiff, reduceCtorEq, d1]
    exact congrArg (Value.int .u16) e
  have d1 : decide (((em8 a).v.toNat : Int) = 0) = false := decide_eq_false (fun e => ha ((em8_wz a).mp e))
  by_cases hb : b = 0
  · have d2 : decide (((em8 b).v.toNat : Int) = 0) = true := decide_eq_true ((em8_wz b).mpr hb)
    have e : (0 : Int) = ((em8 (a * b)).v.toNat : Int) := by rw [hb, El.mul_zero]; rfl
    simp only [WS, ↓reduceIte, Nat.reduceEqDiff, reduceCtorEq, d1, d2]
    exact congrArg (Value.int .u16) e
  have d2 : decide (((em8 b).v.toNat : Int) = 0) = false := decide_eq_false (fun e => hb ((em8_wz b).mp e))
  simp only [WS, ↓reduceIte, Nat.reduceEqDiff, reduceCtorEq, d1, d2]
  have la := a.v.isLt
  have lb := b.v.isLt
  have lab := (a * b).v.isLt
  have e1 : IntKind.u8.wrap ((em8 a).v.toNat : Int) = (a.v.toNat : Int) := by rw [em8_nat, wrap_u8 _ (by omega)]
  have e2 : IntKind.u8.wrap ((em8 b).v.toNat : Int) = (b.v.toNat : Int) := by rw [em8_nat, wrap_u8 _ (by omega)]
  have e3 : IntKind.u16.wrap ((a * b).v.toNat : Int) = ((em8 (a * b)).v.toNat : Int) := by rw [em8_nat, wrap_u16 _ (by omega)]
  simp only [WS, ↓reduceIte, Nat.reduceEqDiff, reduceCtorEq, e1, e2]
  refine X_call0 ((culletref02_Mul_spec w a b).mono ?_)
  rintro _ w' ⟨rfl, rfl⟩
  simp only [WS, ↓reduceIte, Nat.reduceEqDiff, reduceCtorEq, e3]
theorem culletref04_inverse_b_spec (w : World) (a : El 8) (h0 : a ≠ 0) : CallV Try.prog 120 [.bool false, .int .u16 ((em8 a).v.toNat : Int)] w fun v w' => v = .int .u16 ((em8 a.inv).v.toNat : Int) ∧ w' = w := by
  refine run_culletref04_inverse (by simp) ?_
  simp only [c_culletref04_inverse, WS, ↓reduceIte, Nat.reduceEqDiff, reduceCtorEq]
  have la := a.v.isLt
  have lab := (a.inv).v.isLt
  have e1 : IntKind.u8.wrap ((em8 a).v.toNat : Int) = (a.v.toNat : Int) := by rw [em8_nat, wrap_u8 _ (by omega)]
  have e3 : IntKind.u16.wrap ((a.inv).v.toNat : Int) = ((em8 a.inv).v.toNat : Int) := by rw [em8_nat, wrap_u16 _ (by omega)]
  simp only [WS, ↓reduceIte, Nat.reduceEqDiff, reduceCtorEq, e1]
  refine X_call0 ((culletref02_Inv_spec w a h0).mono ?_)
  rintro _ w' ⟨rfl, rfl⟩
  simp only [WS, ↓reduceIte, Nat.reduceEqDiff, reduceCtorEq, e3]
theorem culletref04_Eval_b_spec (w : World) (s : Value) (l : List (El 8)) (x : El 8) (h : Sl w s (l.map em8)) (hb : l.length ≤ 70368744175616) :
    CallV Try.prog 121 [.bool false, s, .int .u16 ((em8 x).v.toNat : Int)] w fun v w' => v = .int .u16 ((em8 (evl l x)).v.toNat : Int) ∧ w' = w := by
  refine run_culletref04_Eval (by simp) ?_
  simp only [c_culletref04_Eval, WS, ↓reduceIte, Nat.reduceEqDiff, reduceCtorEq]
  have hml : (l.map em8).length = l.length := List.length_map ..
  refine loop_of (fun t w' => w' = w ∧ t 0 = .bool false ∧ t 1 = s ∧ t 2 = .int .u16 ((em8 x).v.toNat : Int) ∧ ∃ (i : Nat) (v p : El 8), t 9 = .int .i64 (i : Int) ∧ i ≤ l.length ∧ t 7 = .int .u16 ((em8 v).v.toNat : Int) ∧ t 8 = .int .u16 ((em8 p).v.toNat : Int) ∧ v + p * evl (l.drop i) x = evl l x) (fun t _ => l.length - (toI (t 9)).toNat)
    ⟨rfl, by simp only [WS, ↓reduceIte, Nat.reduceEqDiff, reduceCtorEq], by simp only [WS, ↓reduceIte, Nat.reduceEqDiff, reduceCtorEq], by simp only [WS, ↓reduceIte, Nat.reduceEqDiff, reduceCtorEq], 0, 0, 1, rfl, by omega, rfl, rfl, by rw [List.drop_zero, El.one_mul, El.zero_add]⟩ ?_
  rintro t w' ⟨rfl, t0, t1, t2, i, v, p, t9, hi, t7, t8, hv⟩
  by_cases hlt : i < l.length
  · have hlt2 : i < (l.map em8).length := by omega
    have hg : (l.map em8)[i] = em8 l[i] := List.getElem_map ..
    simp (maxSteps := 1000000) (disch := omega) only [WS, ↓reduceIte, Nat.reduceEqDiff, reduceCtorEq, AS, t0, t1, t2, t7, t8, t9, h.Xlen, hml, h.Xix hlt2, h.Xld hlt2, hg, cell_e16]
    refine X_call0 ((culletref04_timesx_b_spec w' l[i] p).mono ?_)
    rintro _ w2 ⟨rfl, rfl⟩
    simp (maxSteps := 1000000) (disch := omega) only [WS, ↓reduceIte, Nat.reduceEqDiff, reduceCtorEq, AS, t0, t1, t2, t7, t8, t9, xor16, em8_add]
    refine X_call0 ((culletref04_timesx_b_spec w2 p x).mono ?_)
    rintro _ w3 ⟨rfl, rfl⟩
    simp (maxSteps := 1000000) (disch := omega) only [WS, ↓reduceIte, Nat.reduceEqDiff, reduceCtorEq, AS, t0, t1, t2, t7, t8, t9]
    refine ⟨⟨i + 1, v + l[i] * p, p * x, rfl, by omega, rfl, rfl, ?_⟩, by omega⟩
    rw [← hv, evl_drop x l hlt, El.mul_add]
    rw [show p * (x * evl (l.drop (i + 1)) x) = p * x * evl (l.drop (i + 1)) x from (El.mul_assoc _ _ _).symm, El.mul_comm l[i] p, El.add_assoc]
  · obtain rfl : i = l.length := by omega
    rw [List.drop_length] at hv
    have hv2 : v = evl l x := by rw [← hv]; show v = v + p * 0; rw [El.mul_zero, El.add_zero]
    rw [hv2] at t7
    simp (maxSteps := 1000000) (disch := omega) only [WS, ↓reduceIte, Nat.reduceEqDiff, reduceCtorEq, AS, t0, t1, t2, t7, t8, t9, h.Xlen, hml]
end Go.Proofs.Ytbaljbadlfopgaa.Fw
