import Derived.Test.YtcdagkcchfibjaaProg
import Derived.Test.YtcdagkcchfibjaaFwTM
import Derived.Test.YtcdagkcchfibjaaSS04gM
import Derived.Test.YtcdagkcchfibjaaSS04xM
import Derived.Test.YtcdagkcchfibjaaGfSM
set_option linter.all false
set_option linter.unusedVariables false
set_option linter.unusedSimpArgs false
set_option maxRecDepth 100000
set_option maxHeartbeats 1000000
namespace Go.Proofs.Ytcdagkcchfibjaa.Fw
open Go Go.Fw Go.Proofs
attribute [local irreducible] stepI
def c_culletlaw04_horner : C := .seq (.ops [⟨0, (some 6), none, .mov (.c (.int .u16 0)), []⟩]) (.seq (.ops [⟨0, (some 7), none, .mov (.c (.int .u16 0)), []⟩]) (.seq (.seq (.ops [⟨0, (some 9), none, .mov (.t 1), []⟩, ⟨1, (some 10), none, .len (.t 9), []⟩, ⟨2, (some 11), none, .bin .sub (.t 10) (.c (.int .i64 1)), []⟩, ⟨3, (some 8), none, .mov (.t 11), []⟩]) (.block 0 (.loop (.seq (.seq (.ops [⟨0, (some 12), none, .mov (.t 8), []⟩, ⟨1, (some 13), none, .bin .geq (.t 12) (.c (.int .i64 0)), []⟩]) (.ite (.t 13) .skip (.exit 0))) (.seq (.block 1 (.dops [⟨0, (some 16), none, .mov (.t 0), []⟩, ⟨1, (some 17), none, .mov (.t 7), []⟩, ⟨2, (some 18), none, .mov (.t 2), []⟩, ⟨3, (some 19), none, .call (.c (.func (.func 46) #[] #[])) [.t 16, .t 17, .t 18], []⟩, ⟨4, (some 20), none, .mov (.t 1), []⟩, ⟨5, (some 21), none, .mov (.t 8), []⟩, ⟨6, (some 22), none, .ixs 1 (.t 20) (.t 21), []⟩, ⟨7, (some 23), none, .ld (.t 22), [3]⟩, ⟨8, (some 24), none, .bin .xor (.t 19) (.t 23), []⟩, ⟨9, (some 7), none, .mov (.t 24), []⟩])) (.ops [⟨0, (some 14), none, .mov (.t 8), []⟩, ⟨1, (some 15), none, .bin .sub (.t 14) (.c (.int .i64 1)), []⟩, ⟨2, (some 8), none, .mov (.t 15), []⟩])))))) (.seq (.ops [⟨0, (some 25), none, .mov (.t 7), []⟩, ⟨1, (some 6), none, .mov (.t 25), []⟩]) .ret)))
attribute [irreducible] c_culletlaw04_horner
theorem run_culletlaw04_horner {args : List Value} {w : World} {K : Value → World → Prop} (hn : args.length ≤ 26) (h : WP Try.prog c_culletlaw04_horner (endQ [.t 6] K) (initT args) w) : CallV Try.prog 19 args w K :=
  call_of follows Try.func19 (by kernel_rfl) (by kernel_rfl) hn h
end Go.Proofs.Ytcdagkcchfibjaa.Fw
namespace Go.Proofs.Ytcdagkcchfibjaa.Fw
open Go Go.Fw
theorem em16_add (x y : El 16) : em16 x + em16 y = em16 (x + y) := by
  apply El.ext; apply BitVec.eq_of_toNat_eq
  rw [El.add_v, BitVec.toNat_xor, em16_nat, em16_nat, em16_nat, El.add_v, BitVec.toNat_xor]
theorem culletlaw04_horner_w_spec (w : World) (s : Value) (l : List (El 16)) (x : El 16) (h : Sl w s (l.map em16)) (hb : l.length ≤ 70368744175616) :
    CallV Try.prog 19 [.bool true, s, .int .u16 ((em16 x).v.toNat : Int)] w fun v w' => v = .int .u16 ((em16 (evl l x)).v.toNat : Int) ∧ RowKit.Below w.heap.size w w' := by
  have hlen : (l.map em16).length = l.length := List.length_map _
  refine run_culletlaw04_horner (by simp) ?_
  simp only [c_culletlaw04_horner, WS, List.getElem_cons_zero, List.getElem_cons_succ, Option.isNone_some, Option.isNone_none, List.getD_cons_zero, List.getD_cons_succ, I.at, atL, atO, atP, evp, evs, retV, ↓reduceIte, Nat.reduceEqDiff, reduceCtorEq, h.Xlen, hlen, wrap_id (show -9223372036854775808 ≤ (l.length : Int) - 1 by omega) (show (l.length : Int) - 1 < 9223372036854775808 by omega)]
  refine loop_of (fun t w' => t 0 = .bool true ∧ t 1 = s ∧ t 2 = .int .u16 ((em16 x).v.toNat : Int) ∧ RowKit.Below w.heap.size w w' ∧ ∃ k : Nat, t 8 = .int .i64 ((k : Int) - 1) ∧ k ≤ l.length ∧ t 7 = .int .u16 ((em16 (evl (l.drop k) x)).v.toNat : Int)) (fun t _ => (toI (t 8) + 1).toNat)
    ⟨rfl, rfl, rfl, RowKit.Below.refl _ _, l.length, rfl, Nat.le_refl _, by rw [List.drop_length]; rfl⟩ ?_
  rintro t w' ⟨t0, t1, t2, hB, k, t8, hk, t7⟩
  rcases Nat.eq_zero_or_pos k with rfl | hp
  · rw [List.drop_zero] at t7
    simp only [WS, List.getElem_cons_zero, List.getElem_cons_succ, Option.isNone_some, Option.isNone_none, List.getD_cons_zero, List.getD_cons_succ, I.at, atL, atO, atP, evp, evs, retV, ↓reduceIte, Nat.reduceEqDiff, reduceCtorEq, t0, t1, t2, t7, t8, show decide ((0 : Int) ≤ ((0 : Nat) : Int) - 1) = false from rfl]
    exact hB
  · obtain ⟨k, rfl⟩ : ∃ j, k = j + 1 := ⟨k - 1, by omega⟩
    have e1 : ((k + 1 : Nat) : Int) - 1 = (k : Int) := by omega
    rw [e1] at t8
    have hkl : k < l.length := by omega
    have hkl' : k < (l.map em16).length := by rw [hlen]; exact hkl
    have hos := (h.up hB).drew
    have hsee := hos.sees hkl' Try.prog
    rw [cell_e16] at hsee
    simp only [WS, List.getElem_cons_zero, List.getElem_cons_succ, Option.isNone_some, Option.isNone_none, List.getD_cons_zero, List.getD_cons_succ, I.at, atL, atO, atP, evp, evs, retV, ↓reduceIte, Nat.reduceEqDiff, reduceCtorEq, t0, t1, t2, t7, t8, show decide ((0 : Int) ≤ (k : Int)) = true by simp]
    refine WP_dops ?_
    simp only [ES, List.mem_cons, List.not_mem_nil, implies_true, forall_const, WS, List.getElem_cons_zero, List.getElem_cons_succ, Option.isNone_some, Option.isNone_none, List.getD_cons_zero, List.getD_cons_succ, I.at, atL, atO, atP, evp, evs, retV, ↓reduceIte, Nat.reduceEqDiff, reduceCtorEq, t0, t1, t2, t7, t8]
    refine E_call0 ((culletlaw04_times_w_spec w'.drew (evl (l.drop (k + 1)) x) x).mono ?_)
    rintro v w4 ⟨rfl, rfl⟩
    simp only [ES, List.mem_cons, List.not_mem_nil, implies_true, forall_const, WS, List.getElem_cons_zero, List.getElem_cons_succ, Option.isNone_some, Option.isNone_none, List.getD_cons_zero, List.getD_cons_succ, I.at, atL, atO, atP, evp, evs, retV, ↓reduceIte, Nat.reduceEqDiff, reduceCtorEq, t0, t1, t2, t7, t8, hos.Eix hkl', hos.Eld hkl', cell_e16, hsee, xor16, wrap_id (show -9223372036854775808 ≤ (k : Int) - 1 by omega) (show (k : Int) - 1 < 9223372036854775808 by omega), toI_int]
    refine ⟨⟨hB.trans ((bel_drew w').mono hB.size), k, rfl, by omega, ?_⟩, by omega⟩
    rw [evl_drop x l hkl, List.getElem_map, em16_add, El.add_comm, El.mul_comm x]
end Go.Proofs.Ytcdagkcchfibjaa.Fw

namespace Go.Proofs.Ytcdagkcchfibjaa.Fw
open Go Go.Fw
theorem em8_zero : em8 0 = 0 := rfl
theorem em8_eq0 (x : El 8) : (em8 x = 0) = (x = 0) := propext ⟨fun h => em8_inj (h.trans em8_zero.symm), fun h => by rw [h]; rfl⟩
theorem em8_add (x y : El 8) : em8 x + em8 y = em8 (x + y) := by
  apply El.ext; apply BitVec.eq_of_toNat_eq
  rw [El.add_v, BitVec.toNat_xor, em8_nat, em8_nat, em8_nat, El.add_v, BitVec.toNat_xor]
theorem culletlaw04_horner_b_spec (w : World) (s : Value) (l : List (El 8)) (x : El 8) (h : Sl w s (l.map em8)) (hb : l.length ≤ 70368744175616) :
    CallV Try.prog 19 [.bool false, s, .int .u16 ((em8 x).v.toNat : Int)] w fun v w' => v = .int .u16 ((em8 (evl l x)).v.toNat : Int) ∧ RowKit.Below w.heap.size w w' := by
  have hlen : (l.map em8).length = l.length := List.length_map _
  refine run_culletlaw04_horner (by simp) ?_
  simp only [c_culletlaw04_horner, WS, List.getElem_cons_zero, List.getElem_cons_succ, Option.isNone_some, Option.isNone_none, List.getD_cons_zero, List.getD_cons_succ, I.at, atL, atO, atP, evp, evs, retV, ↓reduceIte, Nat.reduceEqDiff, reduceCtorEq, h.Xlen, hlen, wrap_id (show -9223372036854775808 ≤ (l.length : Int) - 1 by omega) (show (l.length : Int) - 1 < 9223372036854775808 by omega)]
  refine loop_of (fun t w' => t 0 = .bool false ∧ t 1 = s ∧ t 2 = .int .u16 ((em8 x).v.toNat : Int) ∧ RowKit.Below w.heap.size w w' ∧ ∃ k : Nat, t 8 = .int .i64 ((k : Int) - 1) ∧ k ≤ l.length ∧ t 7 = .int .u16 ((em8 (evl (l.drop k) x)).v.toNat : Int)) (fun t _ => (toI (t 8) + 1).toNat)
    ⟨rfl, rfl, rfl, RowKit.Below.refl _ _, l.length, rfl, Nat.le_refl _, by rw [List.drop_length]; rfl⟩ ?_
  rintro t w' ⟨t0, t1, t2, hB, k, t8, hk, t7⟩
  rcases Nat.eq_zero_or_pos k with rfl | hp
  · rw [List.drop_zero] at t7
    simp only [WS, List.getElem_cons_zero, List.getElem_cons_succ, Option.isNone_some, Option.isNone_none, List.getD_cons_zero, List.getD_cons_succ, I.at, atL, atO, atP, evp, evs, retV, ↓reduceIte, Nat.reduceEqDiff, reduceCtorEq, t0, t1, t2, t7, t8, show decide ((0 : Int) ≤ ((0 : Nat) : Int) - 1) = false from rfl]
    exact hB
  · obtain ⟨k, rfl⟩ : ∃ j, k = j + 1 := ⟨k - 1, by omega⟩
    have e1 : ((k + 1 : Nat) : Int) - 1 = (k : Int) := by omega
    rw [e1] at t8
    have hkl : k < l.length := by omega
    have hkl' : k < (l.map em8).length := by rw [hlen]; exact hkl
    have hos := (h.up hB).drew
    have hsee := hos.sees hkl' Try.prog
    rw [cell_e16] at hsee
    simp only [WS, List.getElem_cons_zero, List.getElem_cons_succ, Option.isNone_some, Option.isNone_none, List.getD_cons_zero, List.getD_cons_succ, I.at, atL, atO, atP, evp, evs, retV, ↓reduceIte, Nat.reduceEqDiff, reduceCtorEq, t0, t1, t2, t7, t8, show decide ((0 : Int) ≤ (k : Int)) = true by simp]
    refine WP_dops ?_
    simp only [ES, List.mem_cons, List.not_mem_nil, implies_true, forall_const, WS, List.getElem_cons_zero, List.getElem_cons_succ, Option.isNone_some, Option.isNone_none, List.getD_cons_zero, List.getD_cons_succ, I.at, atL, atO, atP, evp, evs, retV, ↓reduceIte, Nat.reduceEqDiff, reduceCtorEq, t0, t1, t2, t7, t8]
    refine E_call0 ((culletlaw04_times_b_spec w'.drew (evl (l.drop (k + 1)) x) x).mono ?_)
    rintro v w4 ⟨rfl, rfl⟩
    simp only [ES, List.mem_cons, List.not_mem_nil, implies_true, forall_const, WS, List.getElem_cons_zero, List.getElem_cons_succ, Option.isNone_some, Option.isNone_none, List.getD_cons_zero, List.getD_cons_succ, I.at, atL, atO, atP, evp, evs, retV, ↓reduceIte, Nat.reduceEqDiff, reduceCtorEq, t0, t1, t2, t7, t8, hos.Eix hkl', hos.Eld hkl', cell_e16, hsee, xor16, wrap_id (show -9223372036854775808 ≤ (k : Int) - 1 by omega) (show (k : Int) - 1 < 9223372036854775808 by omega), toI_int]
    refine ⟨⟨hB.trans ((bel_drew w').mono hB.size), k, rfl, by omega, ?_⟩, by omega⟩
    rw [evl_drop x l hkl, List.getElem_map, em8_add, El.add_comm, El.mul_comm x]
end Go.Proofs.Ytcdagkcchfibjaa.Fw

set_option linter.unusedVariables false
set_option linter.unusedSimpArgs false
set_option maxRecDepth 100000
set_option maxHeartbeats 1000000
namespace Go.Proofs.Ytcdagkcchfibjaa.Fw
open Go Go.Fw Go.Proofs
attribute [local irreducible] stepI
end Go.Proofs.Ytcdagkcchfibjaa.Fw
namespace Go.Proofs.Ytcdagkcchfibjaa.Fw
open Go Go.Fw
end Go.Proofs.Ytcdagkcchfibjaa.Fw

set_option linter.unusedVariables false
set_option linter.unusedSimpArgs false
set_option maxRecDepth 100000
set_option maxHeartbeats 1000000
namespace Go.Proofs.Ytcdagkcchfibjaa.Fw
open Go Go.Fw Go.Proofs
attribute [local irreducible] stepI
def c_culletlaw04_high : C := .seq (.ops [⟨0, (some 2), none, .mov (.c (.int .i64 0)), []⟩]) (.seq (.seq (.ops [⟨0, (some 4), none, .mov (.t 0), []⟩, ⟨1, (some 5), none, .len (.t 4), []⟩, ⟨2, (some 6), none, .bin .sub (.t 5) (.c (.int .i64 1)), []⟩, ⟨3, (some 3), none, .mov (.t 6), []⟩]) (.block 0 (.loop (.seq (.seq (.ops [⟨0, (some 7), none, .mov (.t 3), []⟩, ⟨1, (some 8), none, .bin .geq (.t 7) (.c (.int .i64 0)), []⟩]) (.ite (.t 8) .skip (.exit 0))) (.seq (.block 1 (.seq (.ops [⟨0, (some 11), none, .mov (.t 0), []⟩, ⟨1, (some 12), none, .mov (.t 3), []⟩, ⟨2, (some 13), none, .ixs 1 (.t 11) (.t 12), []⟩, ⟨3, (some 14), none, .ld (.t 13), []⟩, ⟨4, (some 15), none, .bin .neq (.t 14) (.c (.int .u16 0)), []⟩]) (.ite (.t 15) (.seq (.ops [⟨0, (some 16), none, .mov (.t 3), []⟩, ⟨1, (some 2), none, .mov (.t 16), []⟩]) .ret) .skip))) (.ops [⟨0, (some 9), none, .mov (.t 3), []⟩, ⟨1, (some 10), none, .bin .sub (.t 9) (.c (.int .i64 1)), []⟩, ⟨2, (some 3), none, .mov (.t 10), []⟩])))))) (.seq (.ops [⟨0, (some 2), none, .mov (.c (.int .i64 (-1))), []⟩]) .ret))
attribute [irreducible] c_culletlaw04_high
theorem run_culletlaw04_high {args : List Value} {w : World} {K : Value → World → Prop} (hn : args.length ≤ 17) (h : WP Try.prog c_culletlaw04_high (endQ [.t 2] K) (initT args) w) : CallV Try.prog 27 args w K :=
  call_of follows Try.func27 (by kernel_rfl) (by kernel_rfl) hn h
end Go.Proofs.Ytcdagkcchfibjaa.Fw
namespace Go.Proofs.Ytcdagkcchfibjaa.Fw
open Go Go.Fw
theorem culletlaw04_high_spec (w : World) (s : Value) (l : List (El 16)) (h : Sl w s l) (hb : l.length ≤ 70368744175616) : CallV Try.prog 27 [s] w fun v w' => v = .int .i64 ((tln l : Int) - 1) ∧ w' = w := by
  refine run_culletlaw04_high (by simp) ?_
  simp only [c_culletlaw04_high, WS, List.getElem_cons_zero, List.getElem_cons_succ, Option.isNone_some, Option.isNone_none, List.getD_cons_zero, List.getD_cons_succ, I.at, atL, atO, atP, evp, evs, retV, ↓reduceIte, Nat.reduceEqDiff, reduceCtorEq, h.Xlen, wrap_id (show -9223372036854775808 ≤ (l.length : Int) - 1 by omega) (show (l.length : Int) - 1 < 9223372036854775808 by omega)]
  have hle := tln_le l
  refine loop_of (fun t w' => w' = w ∧ t 0 = s ∧ ∃ k : Nat, t 3 = .int .i64 ((k : Int) - 1) ∧ tln l ≤ k ∧ k ≤ l.length) (fun t _ => (toI (t 3) + 1).toNat) ⟨rfl, rfl, l.length, rfl, hle, Nat.le_refl _⟩ ?_
  rintro t w' ⟨rfl, h0, k, h3, hk1, hk2⟩
  rcases Nat.eq_zero_or_pos k with rfl | hp
  · have : tln l = 0 := by omega
    simp only [WS, List.getElem_cons_zero, List.getElem_cons_succ, Option.isNone_some, Option.isNone_none, List.getD_cons_zero, List.getD_cons_succ, I.at, atL, atO, atP, evp, evs, retV, ↓reduceIte, Nat.reduceEqDiff, reduceCtorEq, h0, h3, show decide ((0 : Int) ≤ ((0 : Nat) : Int) - 1) = false from rfl, this]
    rfl
  · obtain ⟨k, rfl⟩ : ∃ j, k = j + 1 := ⟨k - 1, by omega⟩
    have e1 : ((k + 1 : Nat) : Int) - 1 = (k : Int) := by omega
    rw [e1] at h3
    have hkl : k < l.length := by omega
    by_cases hz : l[k] = 0
    · have d1 : decide (((l[k]).v.toNat : Int) = 0) = true := decide_eq_true ((el_zero _).mpr hz)
      simp only [WS, List.getElem_cons_zero, List.getElem_cons_succ, Option.isNone_some, Option.isNone_none, List.getD_cons_zero, List.getD_cons_succ, I.at, atL, atO, atP, evp, evs, retV, ↓reduceIte, Nat.reduceEqDiff, reduceCtorEq, h0, h3, show decide ((0 : Int) ≤ (k : Int)) = true by simp, h.Xix hkl, h.Xld hkl, cell_e16, d1, wrap_id (show -9223372036854775808 ≤ (k : Int) - 1 by omega) (show (k : Int) - 1 < 9223372036854775808 by omega), toI_int]
      refine ⟨⟨k, rfl, ?_, by omega⟩, by omega⟩
      rcases Nat.lt_or_ge k (tln l) with h1 | h1
      · exfalso
        refine tln_top l k (by omega) ?_
        rw [co_get l hkl]; exact hz
      · exact h1
    · have d1 : decide (((l[k]).v.toNat : Int) = 0) = false := decide_eq_false (fun e => hz ((el_zero _).mp e))
      have : tln l = k + 1 := by
        rcases Nat.lt_or_ge (tln l) (k + 1) with h1 | h1
        · exfalso
          have := tln_dg l k (by omega)
          rw [co_get l hkl] at this
          exact hz this
        · omega
      simp only [WS, List.getElem_cons_zero, List.getElem_cons_succ, Option.isNone_some, Option.isNone_none, List.getD_cons_zero, List.getD_cons_succ, I.at, atL, atO, atP, evp, evs, retV, ↓reduceIte, Nat.reduceEqDiff, reduceCtorEq, h0, h3, show decide ((0 : Int) ≤ (k : Int)) = true by simp, h.Xix hkl, h.Xld hkl, cell_e16, d1, this]
      simp only [WS, List.getElem_cons_zero, List.getElem_cons_succ, Option.isNone_some, Option.isNone_none, List.getD_cons_zero, List.getD_cons_succ, I.at, atL, atO, atP, evp, evs, retV, ↓reduceIte, Nat.reduceEqDiff, reduceCtorEq, e1]
theorem tln_em8 : ∀ l : List (El 8), tln (l.map em8) = tln l
  | [] => rfl
  | x :: l => by
    rw [List.map_cons]
    unfold tln
    rw [tln_em8 l]
    simp only [em8_eq0]
end Go.Proofs.Ytcdagkcchfibjaa.Fw
