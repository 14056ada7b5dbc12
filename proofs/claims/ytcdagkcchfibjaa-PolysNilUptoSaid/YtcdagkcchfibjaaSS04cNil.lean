import Derived.Test.YtcdagkcchfibjaaProg
import Derived.Test.YtcdagkcchfibjaaFwTNil
import Derived.Test.YtcdagkcchfibjaaSS04bNil
set_option linter.all false
set_option linter.unusedVariables false
set_option linter.unusedSimpArgs false
set_option maxRecDepth 100000
set_option maxHeartbeats 1000000
namespace Go.Proofs.Ytcdagkcchfibjaa.Fw
open Go Go.Fw Go.Proofs
attribute [local irreducible] stepI
def c_polys_Ring_w_product : C := .seq (.ops [⟨0, (some 6), none, .mov (.c (.slice none 0 0)), []⟩]) (.seq (.dops [⟨0, (some 12), none, .mov (.t 1), []⟩, ⟨1, (some 13), none, .mov (.t 1), []⟩, ⟨2, (some 14), none, .call (.c (.func (.func 91) #[] #[])) [.t 13], []⟩, ⟨3, (some 15), none, .bin .add (.t 14) (.c (.int .i64 1)), []⟩, ⟨4, (some 16), none, .slc 1 (.t 12) none (some (.t 15)) none, []⟩, ⟨5, (some 17), none, .mov (.t 2), []⟩, ⟨6, (some 18), none, .mov (.t 2), []⟩, ⟨7, (some 19), none, .call (.c (.func (.func 91) #[] #[])) [.t 18], []⟩, ⟨8, (some 20), none, .bin .add (.t 19) (.c (.int .i64 1)), []⟩, ⟨9, (some 21), none, .slc 1 (.t 17) none (some (.t 20)) none, []⟩, ⟨10, (some 1), none, .mov (.t 16), []⟩, ⟨11, (some 2), none, .mov (.t 21), []⟩]) (.seq (.seq (.ops [⟨0, (some 22), none, .mov (.t 1), []⟩, ⟨1, (some 23), none, .len (.t 22), []⟩, ⟨2, (some 24), none, .bin .eql (.t 23) (.c (.int .i64 0)), []⟩, ⟨3, (some 25), none, .mov (.t 24), []⟩, ⟨4, (some 26), (some (25, false)), .mov (.t 2), []⟩, ⟨5, (some 27), (some (25, false)), .len (.t 26), []⟩, ⟨6, (some 28), (some (25, false)), .bin .eql (.t 27) (.c (.int .i64 0)), []⟩, ⟨7, (some 29), none, .pick (.t 25) (.c (.bool true)) (.t 28), []⟩]) (.ite (.t 29) (.seq (.ops [⟨0, (some 6), none, .mov (.c (.slice none 0 0)), []⟩]) .ret) .skip)) (.seq (.ops [⟨0, (some 30), none, .mov (.t 1), []⟩, ⟨1, (some 31), none, .len (.t 30), []⟩, ⟨2, (some 32), none, .mov (.t 2), []⟩, ⟨3, (some 33), none, .len (.t 32), []⟩, ⟨4, (some 34), none, .bin .add (.t 31) (.t 33), []⟩, ⟨5, (some 35), none, .bin .sub (.t 34) (.c (.int .i64 1)), []⟩, ⟨6, (some 36), none, .mks 28 2 [.int .u16 0] (.t 35) (.t 35), []⟩, ⟨7, (some 7), none, .mov (.t 36), []⟩]) (.seq (.seq (.ops [⟨0, (some 37), none, .mov (.t 1), []⟩, ⟨1, (some 38), none, .len (.t 37), []⟩, ⟨2, (some 39), none, .mov (.c (.int .i64 0)), []⟩]) (.block 0 (.loop (.seq (.ops [⟨0, (some 40), none, .bin .lss (.t 39) (.t 38), []⟩]) (.seq (.ite (.t 40) .skip (.exit 0)) (.seq (.block 1 (.seq (.ops [⟨0, (some 41), none, .mov (.t 39), []⟩, ⟨1, (some 42), none, .ixs 1 (.t 37) (.t 39), []⟩, ⟨2, (some 43), none, .ld (.t 42), []⟩, ⟨3, (some 8), none, .mov (.t 41), []⟩, ⟨4, (some 9), none, .mov (.t 43), []⟩]) (.seq (.seq (.ops [⟨0, (some 44), none, .mov (.t 9), []⟩, ⟨1, (some 45), none, .bin .eql (.t 44) (.c (.int .u16 0)), []⟩]) (.ite (.t 45) (.exit 1) .skip)) (.seq (.ops [⟨0, (some 46), none, .mov (.t 2), []⟩, ⟨1, (some 47), none, .len (.t 46), []⟩, ⟨2, (some 48), none, .mov (.c (.int .i64 0)), []⟩]) (.block 2 (.loop (.seq (.ops [⟨0, (some 49), none, .bin .lss (.t 48) (.t 47), []⟩]) (.seq (.ite (.t 49) .skip (.exit 2)) (.seq (.block 3 (.seq (.ops [⟨0, (some 50), none, .mov (.t 48), []⟩, ⟨1, (some 51), none, .ixs 1 (.t 46) (.t 48), []⟩, ⟨2, (some 52), none, .ld (.t 51), []⟩, ⟨3, (some 10), none, .mov (.t 50), []⟩, ⟨4, (some 11), none, .mov (.t 52), []⟩]) (.dops [⟨0, (some 53), none, .mov (.t 7), []⟩, ⟨1, (some 54), none, .mov (.t 8), []⟩, ⟨2, (some 55), none, .mov (.t 10), []⟩, ⟨3, (some 56), none, .bin .add (.t 54) (.t 55), []⟩, ⟨4, (some 57), none, .ixs 1 (.t 53) (.t 56), []⟩, ⟨5, (some 58), none, .ld (.t 57), []⟩, ⟨6, (some 59), none, .mov (.t 0), []⟩, ⟨7, (some 60), none, .nil (.t 59), []⟩, ⟨8, (some 61), none, .fad 0 (.t 60), []⟩, ⟨9, (some 62), none, .ld (.t 61), []⟩, ⟨10, (some 63), none, .mov (.t 9), []⟩, ⟨11, (some 64), none, .mov (.t 11), []⟩, ⟨12, (some 65), none, .call (.t 62) [.t 63, .t 64], [5]⟩, ⟨13, (some 66), none, .bin .xor (.t 58) (.t 65), []⟩, ⟨14, (some 67), none, .ixs 1 (.t 53) (.t 56), []⟩, ⟨15, none, none, .st (.t 67) (.t 66), []⟩]))) (.ops [⟨0, (some 68), none, .bin .add (.t 48) (.c (.int .i64 1)), []⟩, ⟨1, (some 48), none, .mov (.t 68), []⟩])))))))))) (.ops [⟨0, (some 69), none, .bin .add (.t 39) (.c (.int .i64 1)), []⟩, ⟨1, (some 39), none, .mov (.t 69), []⟩]))))))) (.seq (.ops [⟨0, (some 70), none, .mov (.t 7), []⟩, ⟨1, (some 6), none, .mov (.t 70), []⟩]) .ret)))))
attribute [irreducible] c_polys_Ring_w_product
theorem run_polys_Ring_w_product {args : List Value} {w : World} {K : Value → World → Prop} (hn : args.length ≤ 71) (h : WP Try.prog c_polys_Ring_w_product (endQ [.t 6] K) (initT args) w) : CallV Try.prog 79 args w K :=
  call_of follows Try.func79 (by kernel_rfl) (by kernel_rfl) hn h
def c_polys_Ring_b_product : C := .seq (.ops [⟨0, (some 6), none, .mov (.c (.slice none 0 0)), []⟩]) (.seq (.dops [⟨0, (some 12), none, .mov (.t 1), []⟩, ⟨1, (some 13), none, .mov (.t 1), []⟩, ⟨2, (some 14), none, .call (.c (.func (.func 93) #[] #[])) [.t 13], []⟩, ⟨3, (some 15), none, .bin .add (.t 14) (.c (.int .i64 1)), []⟩, ⟨4, (some 16), none, .slc 1 (.t 12) none (some (.t 15)) none, []⟩, ⟨5, (some 17), none, .mov (.t 2), []⟩, ⟨6, (some 18), none, .mov (.t 2), []⟩, ⟨7, (some 19), none, .call (.c (.func (.func 93) #[] #[])) [.t 18], []⟩, ⟨8, (some 20), none, .bin .add (.t 19) (.c (.int .i64 1)), []⟩, ⟨9, (some 21), none, .slc 1 (.t 17) none (some (.t 20)) none, []⟩, ⟨10, (some 1), none, .mov (.t 16), []⟩, ⟨11, (some 2), none, .mov (.t 21), []⟩]) (.seq (.seq (.ops [⟨0, (some 22), none, .mov (.t 1), []⟩, ⟨1, (some 23), none, .len (.t 22), []⟩, ⟨2, (some 24), none, .bin .eql (.t 23) (.c (.int .i64 0)), []⟩, ⟨3, (some 25), none, .mov (.t 24), []⟩, ⟨4, (some 26), (some (25, false)), .mov (.t 2), []⟩, ⟨5, (some 27), (some (25, false)), .len (.t 26), []⟩, ⟨6, (some 28), (some (25, false)), .bin .eql (.t 27) (.c (.int .i64 0)), []⟩, ⟨7, (some 29), none, .pick (.t 25) (.c (.bool true)) (.t 28), []⟩]) (.ite (.t 29) (.seq (.ops [⟨0, (some 6), none, .mov (.c (.slice none 0 0)), []⟩]) .ret) .skip)) (.seq (.ops [⟨0, (some 30), none, .mov (.t 1), []⟩, ⟨1, (some 31), none, .len (.t 30), []⟩, ⟨2, (some 32), none, .mov (.t 2), []⟩, ⟨3, (some 33), none, .len (.t 32), []⟩, ⟨4, (some 34), none, .bin .add (.t 31) (.t 33), []⟩, ⟨5, (some 35), none, .bin .sub (.t 34) (.c (.int .i64 1)), []⟩, ⟨6, (some 36), none, .mks 5 1 [.int .u8 0] (.t 35) (.t 35), []⟩, ⟨7, (some 7), none, .mov (.t 36), []⟩]) (.seq (.seq (.ops [⟨0, (some 37), none, .mov (.t 1), []⟩, ⟨1, (some 38), none, .len (.t 37), []⟩, ⟨2, (some 39), none, .mov (.c (.int .i64 0)), []⟩]) (.block 0 (.loop (.seq (.ops [⟨0, (some 40), none, .bin .lss (.t 39) (.t 38), []⟩]) (.seq (.ite (.t 40) .skip (.exit 0)) (.seq (.block 1 (.seq (.ops [⟨0, (some 41), none, .mov (.t 39), []⟩, ⟨1, (some 42), none, .ixs 1 (.t 37) (.t 39), []⟩, ⟨2, (some 43), none, .ld (.t 42), []⟩, ⟨3, (some 8), none, .mov (.t 41), []⟩, ⟨4, (some 9), none, .mov (.t 43), []⟩]) (.seq (.seq (.ops [⟨0, (some 44), none, .mov (.t 9), []⟩, ⟨1, (some 45), none, .bin .eql (.t 44) (.c (.int .u8 0)), []⟩]) (.ite (.t 45) (.exit 1) .skip)) (.seq (.ops [⟨0, (some 46), none, .mov (.t 2), []⟩, ⟨1, (some 47), none, .len (.t 46), []⟩, ⟨2, (some 48), none, .mov (.c (.int .i64 0)), []⟩]) (.block 2 (.loop (.seq (.ops [⟨0, (some 49), none, .bin .lss (.t 48) (.t 47), []⟩]) (.seq (.ite (.t 49) .skip (.exit 2)) (.seq (.block 3 (.seq (.ops [⟨0, (some 50), none, .mov (.t 48), []⟩, ⟨1, (some 51), none, .ixs 1 (.t 46) (.t 48), []⟩, ⟨2, (some 52), none, .ld (.t 51), []⟩, ⟨3, (some 10), none, .mov (.t 50), []⟩, ⟨4, (some 11), none, .mov (.t 52), []⟩]) (.dops [⟨0, (some 53), none, .mov (.t 7), []⟩, ⟨1, (some 54), none, .mov (.t 8), []⟩, ⟨2, (some 55), none, .mov (.t 10), []⟩, ⟨3, (some 56), none, .bin .add (.t 54) (.t 55), []⟩, ⟨4, (some 57), none, .ixs 1 (.t 53) (.t 56), []⟩, ⟨5, (some 58), none, .ld (.t 57), []⟩, ⟨6, (some 59), none, .mov (.t 0), []⟩, ⟨7, (some 60), none, .nil (.t 59), []⟩, ⟨8, (some 61), none, .fad 0 (.t 60), []⟩, ⟨9, (some 62), none, .ld (.t 61), []⟩, ⟨10, (some 63), none, .mov (.t 9), []⟩, ⟨11, (some 64), none, .mov (.t 11), []⟩, ⟨12, (some 65), none, .call (.t 62) [.t 63, .t 64], [5]⟩, ⟨13, (some 66), none, .bin .xor (.t 58) (.t 65), []⟩, ⟨14, (some 67), none, .ixs 1 (.t 53) (.t 56), []⟩, ⟨15, none, none, .st (.t 67) (.t 66), []⟩]))) (.ops [⟨0, (some 68), none, .bin .add (.t 48) (.c (.int .i64 1)), []⟩, ⟨1, (some 48), none, .mov (.t 68), []⟩])))))))))) (.ops [⟨0, (some 69), none, .bin .add (.t 39) (.c (.int .i64 1)), []⟩, ⟨1, (some 39), none, .mov (.t 69), []⟩]))))))) (.seq (.ops [⟨0, (some 70), none, .mov (.t 7), []⟩, ⟨1, (some 6), none, .mov (.t 70), []⟩]) .ret)))))
attribute [irreducible] c_polys_Ring_b_product
theorem run_polys_Ring_b_product {args : List Value} {w : World} {K : Value → World → Prop} (hn : args.length ≤ 71) (h : WP Try.prog c_polys_Ring_b_product (endQ [.t 6] K) (initT args) w) : CallV Try.prog 81 args w K :=
  call_of follows Try.func81 (by kernel_rfl) (by kernel_rfl) hn h
end Go.Proofs.Ytcdagkcchfibjaa.Fw
namespace Go.Proofs.Ytcdagkcchfibjaa.Fw
open Go Go.Fw
theorem polys_Ring_w_product_spec (w : World) (r s1 s2 : Value) (l1 l2 : List (El 16)) (hr : Ring_w w r) (h1 : Sl w s1 l1) (h2 : Sl w s2 l2) (hb1 : l1.length ≤ 70368744175616) (hb2 : l2.length ≤ 70368744175616) :
    CallV Try.prog 79 [r, s1, s2] w fun v w' => ∃ l, Ow w.heap.size w' v l ∧ tr l = l ∧ co l = co l1 * co l2 ∧ l.length ≤ l1.length + l2.length ∧ RowKit.Below w.heap.size w w' := by
  have hle1 := tln_le l1
  have hle2 := tln_le l2
  refine run_polys_Ring_w_product (by simp) ?_
  simp only [c_polys_Ring_w_product, WS, List.getElem_cons_zero, List.getElem_cons_succ, Option.isNone_some, Option.isNone_none, List.getD_cons_zero, List.getD_cons_succ, I.at, atL, atO, atP, evp, evs, retV, ↓reduceIte, Nat.reduceEqDiff, reduceCtorEq]
  refine WP_dops ?_
  simp only [ES, List.mem_cons, List.not_mem_nil, implies_true, forall_const, WS, List.getElem_cons_zero, List.getElem_cons_succ, Option.isNone_some, Option.isNone_none, List.getD_cons_zero, List.getD_cons_succ, I.at, atL, atO, atP, evp, evs, retV, ↓reduceIte, Nat.reduceEqDiff, reduceCtorEq]
  refine E_call0 ((polys_degree_w_spec w.drew s1 l1 h1.drew hb1).mono ?_)
  rintro v w' ⟨rfl, rfl⟩
  have e1 : IntKind.i64.wrap ((tln l1 : Int) - 1 + 1) = (tln l1 : Int) := by rw [wrap_id (by omega) (by omega)]; omega
  have e2 : IntKind.i64.wrap ((tln l2 : Int) - 1 + 1) = (tln l2 : Int) := by rw [wrap_id (by omega) (by omega)]; omega
  simp only [ES, List.mem_cons, List.not_mem_nil, implies_true, forall_const, WS, List.getElem_cons_zero, List.getElem_cons_succ, Option.isNone_some, Option.isNone_none, List.getD_cons_zero, List.getD_cons_succ, I.at, atL, atO, atP, evp, evs, retV, ↓reduceIte, Nat.reduceEqDiff, reduceCtorEq, e1, h1.drew.EslcHi hle1]
  refine E_call0 ((polys_degree_w_spec w.drew s2 l2 h2.drew hb2).mono ?_)
  rintro v w' ⟨rfl, rfl⟩
  have g1 : Sl w.drew (Fw.sub s1 0 (tln l1)) (tr l1) := h1.drew.sub (Nat.zero_le _) hle1
  have g2 : Sl w.drew (Fw.sub s2 0 (tln l2)) (tr l2) := h2.drew.sub (Nat.zero_le _) hle2
  simp only [ES, List.mem_cons, List.not_mem_nil, implies_true, forall_const, WS, List.getElem_cons_zero, List.getElem_cons_succ, Option.isNone_some, Option.isNone_none, List.getD_cons_zero, List.getD_cons_succ, I.at, atL, atO, atP, evp, evs, retV, ↓reduceIte, Nat.reduceEqDiff, reduceCtorEq, e2, h2.drew.EslcHi hle2, g1.Xlen, g2.Xlen, tr_len]
  by_cases hz : tln l1 = 0 ∨ tln l2 = 0
  · have hco : (0 : Ps 16) = co l1 * co l2 := by
      rcases hz with hz | hz
      · rw [co_zero_of_tln hz, Ps.zero_mul]
      · rw [co_zero_of_tln hz, Ps.mul_zero]
    have fin : ∃ l : List (El 16), Ow w.heap.size w.drew (.slice none 0 0) l ∧ tr l = l ∧ co l = co l1 * co l2 ∧ l.length ≤ l1.length + l2.length ∧ RowKit.Below w.heap.size w w.drew :=
      ⟨[], Ow.nil _ _, rfl, hco, by simp, bel_drew w⟩
    by_cases hz1 : tln l1 = 0
    · simp only [WS, List.getElem_cons_zero, List.getElem_cons_succ, Option.isNone_some, Option.isNone_none, List.getD_cons_zero, List.getD_cons_succ, I.at, atL, atO, atP, evp, evs, retV, ↓reduceIte, Nat.reduceEqDiff, reduceCtorEq, hz1, show decide (((0 : Nat) : Int) = 0) = true from rfl]
      exact fin
    · have hz2 : tln l2 = 0 := by omega
      simp only [WS, List.getElem_cons_zero, List.getElem_cons_succ, Option.isNone_some, Option.isNone_none, List.getD_cons_zero, List.getD_cons_succ, I.at, atL, atO, atP, evp, evs, retV, ↓reduceIte, Nat.reduceEqDiff, reduceCtorEq, hz2, show decide ((tln l1 : Int) = 0) = false from decide_eq_false (by omega), show decide (((0 : Nat) : Int) = 0) = true from rfl]
      exact fin
  have n1 : 0 < tln l1 := by omega
  have n2 : 0 < tln l2 := by omega
  have e3 : IntKind.i64.wrap ((tln l1 : Int) + (tln l2 : Int)) = ((tln l1 + tln l2 : Nat) : Int) := by rw [wrap_id (by omega) (by omega)]; omega
  have e4 : IntKind.i64.wrap (((tln l1 + tln l2 : Nat) : Int) - 1) = ((tln l1 + tln l2 - 1 : Nat) : Int) := by rw [wrap_id (by omega) (by omega)]; omega
  simp only [WS, List.getElem_cons_zero, List.getElem_cons_succ, Option.isNone_some, Option.isNone_none, List.getD_cons_zero, List.getD_cons_succ, I.at, atL, atO, atP, evp, evs, retV, ↓reduceIte, Nat.reduceEqDiff, reduceCtorEq, show decide ((tln l1 : Int) = 0) = false from decide_eq_false (by omega), show decide ((tln l2 : Int) = 0) = false from decide_eq_false (by omega), g1.Xlen, g2.Xlen, tr_len, e3, e4]
  refine X_mks (x := (0 : El 16)) ?_ ?_ fun p w1 ho hB => ?_
  · simp only [maxBytes]; omega
  · omega
  simp only [WS, List.getElem_cons_zero, List.getElem_cons_succ, Option.isNone_some, Option.isNone_none, List.getD_cons_zero, List.getD_cons_succ, I.at, atL, atO, atP, evp, evs, retV, ↓reduceIte, Nat.reduceEqDiff, reduceCtorEq, g1.Xlen, tr_len]
  have hB : RowKit.Below w.heap.size w w1 := (bel_drew w).trans hB
  obtain ⟨b, mv, iv, rfl, hrow, hm, -⟩ := id hr
  have h0b : b < w.heap.size := row_lt hrow
  refine loop_of (fun t w2 => t 0 = .pointer (some ⟨b, 0, none⟩) ∧ t 2 = Fw.sub s2 0 (tln l2) ∧ t 7 = p ∧ t 37 = Fw.sub s1 0 (tln l1) ∧ t 38 = .int .i64 (tln l1 : Int) ∧ RowKit.Below w.heap.size w w2 ∧ ∃ (i : Nat) (ls : List (El 16)), t 39 = .int .i64 (i : Int) ∧ i ≤ tln l1 ∧
      Ow w.heap.size w2 p ls ∧ ls.length = tln l1 + tln l2 - 1 ∧ co ls = co ((tr l1).take i) * co (tr l2))
    (fun t _ => tln l1 - (toI (t 39)).toNat) ⟨rfl, rfl, rfl, rfl, rfl, hB, 0, _, rfl, by omega, ho, by simp, by rw [List.take_zero, co_nil, Ps.zero_mul, co_replicate]⟩ ?_
  clear ho hB
  rintro t w2 ⟨t0, t2, t7, t37, t38, hB, i, ls, t39, hi, ho, hll, hc⟩
  by_cases hlt : i < tln l1
  · have hlt1 : i < (tr l1).length := by rw [tr_len]; exact hlt
    have hlt1' : i < l1.length := by omega
    have g1 : Sl w2 (Fw.sub s1 0 (tln l1)) (tr l1) := (h1.up hB).sub (Nat.zero_le _) hle1
    have g2 : Sl w2 (Fw.sub s2 0 (tln l2)) (tr l2) := (h2.up hB).sub (Nat.zero_le _) hle2
    have wi : IntKind.i64.wrap ((i : Int) + 1) = ((i + 1 : Nat) : Int) := by rw [wrap_id (by omega) (by omega)]; omega
    by_cases hx : (tr l1)[i] = 0
    · have d1 : decide ((((tr l1)[i]).v.toNat : Int) = 0) = true := decide_eq_true ((el_zero _).mpr hx)
      simp only [WS, List.getElem_cons_zero, List.getElem_cons_succ, Option.isNone_some, Option.isNone_none, List.getD_cons_zero, List.getD_cons_succ, I.at, atL, atO, atP, evp, evs, retV, ↓reduceIte, Nat.reduceEqDiff, reduceCtorEq, t0, t2, t7, t37, t38, t39, show decide ((i : Int) < (tln l1 : Int)) = true from decide_eq_true (by omega), g1.Xix hlt1, g1.Xld hlt1, cell_e16, d1, wi, toI_int]
      refine ⟨⟨hB, i + 1, ls, rfl, by omega, ho, hll, ?_⟩, by omega⟩
      rw [hc, co_take_succ _ hlt1, hx, mono_zero, Ps.add_zero]
    · have d1 : decide ((((tr l1)[i]).v.toNat : Int) = 0) = false := decide_eq_false (fun e => hx ((el_zero _).mp e))
      simp only [WS, List.getElem_cons_zero, List.getElem_cons_succ, Option.isNone_some, Option.isNone_none, List.getD_cons_zero, List.getD_cons_succ, I.at, atL, atO, atP, evp, evs, retV, ↓reduceIte, Nat.reduceEqDiff, reduceCtorEq, t0, t2, t7, t37, t38, t39, show decide ((i : Int) < (tln l1 : Int)) = true from decide_eq_true (by omega), g1.Xix hlt1, g1.Xld hlt1, cell_e16, d1, g2.Xlen, tr_len]
      refine loop_of (fun t w2 => t 0 = .pointer (some ⟨b, 0, none⟩) ∧ t 2 = Fw.sub s2 0 (tln l2) ∧ t 7 = p ∧ t 8 = .int .i64 (i : Int) ∧ t 9 = .int .u16 (((tr l1)[i]).v.toNat : Int) ∧ t 37 = Fw.sub s1 0 (tln l1) ∧ t 38 = .int .i64 (tln l1 : Int) ∧ t 39 = .int .i64 (i : Int) ∧
          t 46 = Fw.sub s2 0 (tln l2) ∧ t 47 = .int .i64 (tln l2 : Int) ∧ RowKit.Below w.heap.size w w2 ∧ ∃ (j : Nat) (ls : List (El 16)), t 48 = .int .i64 (j : Int) ∧ j ≤ tln l2 ∧
          Ow w.heap.size w2 p ls ∧ ls.length = tln l1 + tln l2 - 1 ∧ ∀ k, (co ls).c k = (co ((tr l1).take i) * co (tr l2)).c k + (if i ≤ k ∧ k < i + j then (tr l1)[i] * (co (tr l2)).c (k - i) else 0))
        (fun t _ => tln l2 - (toI (t 48)).toNat) ⟨by simp only [WS, List.getElem_cons_zero, List.getElem_cons_succ, Option.isNone_some, Option.isNone_none, List.getD_cons_zero, List.getD_cons_succ, I.at, atL, atO, atP, evp, evs, retV, ↓reduceIte, Nat.reduceEqDiff, reduceCtorEq, t0], by simp only [WS, List.getElem_cons_zero, List.getElem_cons_succ, Option.isNone_some, Option.isNone_none, List.getD_cons_zero, List.getD_cons_succ, I.at, atL, atO, atP, evp, evs, retV, ↓reduceIte, Nat.reduceEqDiff, reduceCtorEq, t2], by simp only [WS, List.getElem_cons_zero, List.getElem_cons_succ, Option.isNone_some, Option.isNone_none, List.getD_cons_zero, List.getD_cons_succ, I.at, atL, atO, atP, evp, evs, retV, ↓reduceIte, Nat.reduceEqDiff, reduceCtorEq, t7], rfl, rfl, by simp only [WS, List.getElem_cons_zero, List.getElem_cons_succ, Option.isNone_some, Option.isNone_none, List.getD_cons_zero, List.getD_cons_succ, I.at, atL, atO, atP, evp, evs, retV, ↓reduceIte, Nat.reduceEqDiff, reduceCtorEq, t37], by simp only [WS, List.getElem_cons_zero, List.getElem_cons_succ, Option.isNone_some, Option.isNone_none, List.getD_cons_zero, List.getD_cons_succ, I.at, atL, atO, atP, evp, evs, retV, ↓reduceIte, Nat.reduceEqDiff, reduceCtorEq, t38], by simp only [WS, List.getElem_cons_zero, List.getElem_cons_succ, Option.isNone_some, Option.isNone_none, List.getD_cons_zero, List.getD_cons_succ, I.at, atL, atO, atP, evp, evs, retV, ↓reduceIte, Nat.reduceEqDiff, reduceCtorEq, t39], rfl, rfl, hB, 0, ls, rfl, by omega, ho, hll, fun k => by rw [hc, if_neg (by omega), El.add_zero]⟩ ?_
      clear ho hc hll hB t0 t2 t7 t37 t38 t39 g1 g2
      rintro t w3 ⟨t0, t2, t7, t8, t9, t37, t38, t39, t46, t47, hB, j, ls, t48, hj, ho, hll, hc⟩
      have g2 : Sl w3 (Fw.sub s2 0 (tln l2)) (tr l2) := (h2.up hB).sub (Nat.zero_le _) hle2
      by_cases hjl : j < tln l2
      · have hjl2 : j < (tr l2).length := by rw [tr_len]; exact hjl
        have hij : i + j < ls.length := by omega
        have wij : IntKind.i64.wrap ((i : Int) + (j : Int)) = ((i + j : Nat) : Int) := by rw [wrap_id (by omega) (by omega)]; omega
        have wj : IntKind.i64.wrap ((j : Int) + 1) = ((j + 1 : Nat) : Int) := by rw [wrap_id (by omega) (by omega)]; omega
        obtain ⟨b', mv', iv', hbe, hrow', hm', -⟩ := hr.up hB
        cases hbe
        simp only [WS, List.getElem_cons_zero, List.getElem_cons_succ, Option.isNone_some, Option.isNone_none, List.getD_cons_zero, List.getD_cons_succ, I.at, atL, atO, atP, evp, evs, retV, ↓reduceIte, Nat.reduceEqDiff, reduceCtorEq, t0, t2, t7, t8, t9, t37, t38, t39, t46, t47, t48, show decide ((j : Int) < (tln l2 : Int)) = true from decide_eq_true (by omega), g2.Xix hjl2, g2.Xld hjl2, cell_e16]
        refine WP_dops ?_
        have hos := ho.sl.drew
        simp only [ES, List.mem_cons, List.not_mem_nil, implies_true, forall_const, WS, List.getElem_cons_zero, List.getElem_cons_succ, Option.isNone_some, Option.isNone_none, List.getD_cons_zero, List.getD_cons_succ, I.at, atL, atO, atP, evp, evs, retV, ↓reduceIte, Nat.reduceEqDiff, reduceCtorEq, t0, t7, t8, t9, wij, hos.Eix hij, hos.Eld hij, addr_add0, Nat.add_zero, hrow'.drew.Eld (show 0 < [mv', iv'].length by simp), cell_e16]
        refine E_callK (Mul_w.call (w := w3.drew) hm' _ _ fun w4 hl => ?_)
        have hsee := (hl.sl hos).sees hij Try.prog
        rw [cell_e16] at hsee
        have hos4 := hl.sl hos
        simp only [ES, List.mem_cons, List.not_mem_nil, implies_true, forall_const, WS, List.getElem_cons_zero, List.getElem_cons_succ, Option.isNone_some, Option.isNone_none, List.getD_cons_zero, List.getD_cons_succ, I.at, atL, atO, atP, evp, evs, retV, ↓reduceIte, Nat.reduceEqDiff, reduceCtorEq, hsee, xor16, hos4.Eix hij]
        refine Ow.Est (hl.ow ho.drew) hij (ls[i + j] + (tr l1)[i] * (tr l2)[j]) fun w5 ho5 hg5 => ?_
        have hB5 : RowKit.Below w.heap.size w w5 := (hl.bel (hB.trans ((bel_drew w3).mono hB.size)) hB.size).grown hg5 (by rw [hl.size]; exact hB.size) fun b hb => (ho.blk b hb).1
        simp only [ES, List.mem_cons, List.not_mem_nil, implies_true, forall_const, WS, List.getElem_cons_zero, List.getElem_cons_succ, Option.isNone_some, Option.isNone_none, List.getD_cons_zero, List.getD_cons_succ, I.at, atL, atO, atP, evp, evs, retV, ↓reduceIte, Nat.reduceEqDiff, reduceCtorEq, t0, t2, t7, t8, t9, t37, t38, t39, t46, t47, t48, wj, toI_int]
        refine ⟨⟨hB5, j + 1, _, rfl, by omega, ho5, by simp [hll], fun k => ?_⟩, by omega⟩
        rw [co_set _ hij, hc k]
        by_cases hk : k = i + j
        · subst hk
          rw [if_pos rfl, if_pos ⟨by omega, by omega⟩]
          have := hc (i + j)
          rw [if_neg (by omega), El.add_zero, co_get ls hij] at this
          rw [this, show i + j - i = j by omega, co_get _ hjl2]
        · rw [if_neg hk]
          have : (i ≤ k ∧ k < i + (j + 1)) = (i ≤ k ∧ k < i + j) := propext ⟨fun h => by omega, fun h => by omega⟩
          simp only [this]
      · have wi : IntKind.i64.wrap ((i : Int) + 1) = ((i + 1 : Nat) : Int) := by rw [wrap_id (by omega) (by omega)]; omega
        simp only [WS, List.getElem_cons_zero, List.getElem_cons_succ, Option.isNone_some, Option.isNone_none, List.getD_cons_zero, List.getD_cons_succ, I.at, atL, atO, atP, evp, evs, retV, ↓reduceIte, Nat.reduceEqDiff, reduceCtorEq, t0, t2, t7, t8, t9, t37, t38, t39, t46, t47, t48, show decide ((j : Int) < (tln l2 : Int)) = false from decide_eq_false (by omega), wi, toI_int]
        refine ⟨⟨hB, i + 1, ls, rfl, by omega, ho, hll, ?_⟩, by omega⟩
        rw [co_take_succ _ hlt1, Ps.add_mul]
        refine Ps.ext fun k => ?_
        rw [hc k, Ps.add_c, Ps.mono_mul]
        congr 1
        by_cases hik : i ≤ k
        · rw [if_pos hik]
          by_cases hk2 : k < i + j
          · rw [if_pos ⟨hik, hk2⟩]
          · rw [if_neg (by omega), tr_co, tln_dg l2 (k - i) (by omega), El.mul_zero]
        · rw [if_neg (by omega), if_neg hik]
  · have hi' : i = tln l1 := by omega
    have hco : co ls = co l1 * co l2 := by
      rw [hc, hi', show (tr l1).take (tln l1) = tr l1 by rw [← tr_len, List.take_length], tr_co, tr_co]
    simp only [WS, List.getElem_cons_zero, List.getElem_cons_succ, Option.isNone_some, Option.isNone_none, List.getD_cons_zero, List.getD_cons_succ, I.at, atL, atO, atP, evp, evs, retV, ↓reduceIte, Nat.reduceEqDiff, reduceCtorEq, t0, t2, t7, t37, t38, t39, show decide ((i : Int) < (tln l1 : Int)) = false from decide_eq_false (by omega)]
    exact ⟨ls, ho, tr_mul hco (by omega) (by omega) hll, hco, by omega, hB⟩
end Go.Proofs.Ytcdagkcchfibjaa.Fw

namespace Go.Proofs.Ytcdagkcchfibjaa.Fw
open Go Go.Fw
theorem polys_Ring_b_product_spec (w : World) (r s1 s2 : Value) (l1 l2 : List (El 8)) (hr : Ring_b w r) (h1 : Sl w s1 l1) (h2 : Sl w s2 l2) (hb1 : l1.length ≤ 70368744175616) (hb2 : l2.length ≤ 70368744175616) :
    CallV Try.prog 81 [r, s1, s2] w fun v w' => ∃ l, Ow w.heap.size w' v l ∧ tr l = l ∧ co l = co l1 * co l2 ∧ l.length ≤ l1.length + l2.length ∧ RowKit.Below w.heap.size w w' := by
  have hle1 := tln_le l1
  have hle2 := tln_le l2
  refine run_polys_Ring_b_product (by simp) ?_
  simp only [c_polys_Ring_b_product, WS, List.getElem_cons_zero, List.getElem_cons_succ, Option.isNone_some, Option.isNone_none, List.getD_cons_zero, List.getD_cons_succ, I.at, atL, atO, atP, evp, evs, retV, ↓reduceIte, Nat.reduceEqDiff, reduceCtorEq]
  refine WP_dops ?_
  simp only [ES, List.mem_cons, List.not_mem_nil, implies_true, forall_const, WS, List.getElem_cons_zero, List.getElem_cons_succ, Option.isNone_some, Option.isNone_none, List.getD_cons_zero, List.getD_cons_succ, I.at, atL, atO, atP, evp, evs, retV, ↓reduceIte, Nat.reduceEqDiff, reduceCtorEq]
  refine E_call0 ((polys_degree_b_spec w.drew s1 l1 h1.drew hb1).mono ?_)
  rintro v w' ⟨rfl, rfl⟩
  have e1 : IntKind.i64.wrap ((tln l1 : Int) - 1 + 1) = (tln l1 : Int) := by rw [wrap_id (by omega) (by omega)]; omega
  have e2 : IntKind.i64.wrap ((tln l2 : Int) - 1 + 1) = (tln l2 : Int) := by rw [wrap_id (by omega) (by omega)]; omega
  simp only [ES, List.mem_cons, List.not_mem_nil, implies_true, forall_const, WS, List.getElem_cons_zero, List.getElem_cons_succ, Option.isNone_some, Option.isNone_none, List.getD_cons_zero, List.getD_cons_succ, I.at, atL, atO, atP, evp, evs, retV, ↓reduceIte, Nat.reduceEqDiff, reduceCtorEq, e1, h1.drew.EslcHi hle1]
  refine E_call0 ((polys_degree_b_spec w.drew s2 l2 h2.drew hb2).mono ?_)
  rintro v w' ⟨rfl, rfl⟩
  have g1 : Sl w.drew (Fw.sub s1 0 (tln l1)) (tr l1) := h1.drew.sub (Nat.zero_le _) hle1
  have g2 : Sl w.drew (Fw.sub s2 0 (tln l2)) (tr l2) := h2.drew.sub (Nat.zero_le _) hle2
  simp only [ES, List.mem_cons, List.not_mem_nil, implies_true, forall_const, WS, List.getElem_cons_zero, List.getElem_cons_succ, Option.isNone_some, Option.isNone_none, List.getD_cons_zero, List.getD_cons_succ, I.at, atL, atO, atP, evp, evs, retV, ↓reduceIte, Nat.reduceEqDiff, reduceCtorEq, e2, h2.drew.EslcHi hle2, g1.Xlen, g2.Xlen, tr_len]
  by_cases hz : tln l1 = 0 ∨ tln l2 = 0
  · have hco : (0 : Ps 8) = co l1 * co l2 := by
      rcases hz with hz | hz
      · rw [co_zero_of_tln hz, Ps.zero_mul]
      · rw [co_zero_of_tln hz, Ps.mul_zero]
    have fin : ∃ l : List (El 8), Ow w.heap.size w.drew (.slice none 0 0) l ∧ tr l = l ∧ co l = co l1 * co l2 ∧ l.length ≤ l1.length + l2.length ∧ RowKit.Below w.heap.size w w.drew :=
      ⟨[], Ow.nil _ _, rfl, hco, by simp, bel_drew w⟩
    by_cases hz1 : tln l1 = 0
    · simp only [WS, List.getElem_cons_zero, List.getElem_cons_succ, Option.isNone_some, Option.isNone_none, List.getD_cons_zero, List.getD_cons_succ, I.at, atL, atO, atP, evp, evs, retV, ↓reduceIte, Nat.reduceEqDiff, reduceCtorEq, hz1, show decide (((0 : Nat) : Int) = 0) = true from rfl]
      exact fin
    · have hz2 : tln l2 = 0 := by omega
      simp only [WS, List.getElem_cons_zero, List.getElem_cons_succ, Option.isNone_some, Option.isNone_none, List.getD_cons_zero, List.getD_cons_succ, I.at, atL, atO, atP, evp, evs, retV, ↓reduceIte, Nat.reduceEqDiff, reduceCtorEq, hz2, show decide ((tln l1 : Int) = 0) = false from decide_eq_false (by omega), show decide (((0 : Nat) : Int) = 0) = true from rfl]
      exact fin
  have n1 : 0 < tln l1 := by omega
  have n2 : 0 < tln l2 := by omega
  have e3 : IntKind.i64.wrap ((tln l1 : Int) + (tln l2 : Int)) = ((tln l1 + tln l2 : Nat) : Int) := by rw [wrap_id (by omega) (by omega)]; omega
  have e4 : IntKind.i64.wrap (((tln l1 + tln l2 : Nat) : Int) - 1) = ((tln l1 + tln l2 - 1 : Nat) : Int) := by rw [wrap_id (by omega) (by omega)]; omega
  simp only [WS, List.getElem_cons_zero, List.getElem_cons_succ, Option.isNone_some, Option.isNone_none, List.getD_cons_zero, List.getD_cons_succ, I.at, atL, atO, atP, evp, evs, retV, ↓reduceIte, Nat.reduceEqDiff, reduceCtorEq, show decide ((tln l1 : Int) = 0) = false from decide_eq_false (by omega), show decide ((tln l2 : Int) = 0) = false from decide_eq_false (by omega), g1.Xlen, g2.Xlen, tr_len, e3, e4]
  refine X_mks (x := (0 : El 8)) ?_ ?_ fun p w1 ho hB => ?_
  · simp only [maxBytes]; omega
  · omega
  simp only [WS, List.getElem_cons_zero, List.getElem_cons_succ, Option.isNone_some, Option.isNone_none, List.getD_cons_zero, List.getD_cons_succ, I.at, atL, atO, atP, evp, evs, retV, ↓reduceIte, Nat.reduceEqDiff, reduceCtorEq, g1.Xlen, tr_len]
  have hB : RowKit.Below w.heap.size w w1 := (bel_drew w).trans hB
  obtain ⟨b, mv, iv, rfl, hrow, hm, -⟩ := id hr
  have h0b : b < w.heap.size := row_lt hrow
  refine loop_of (fun t w2 => t 0 = .pointer (some ⟨b, 0, none⟩) ∧ t 2 = Fw.sub s2 0 (tln l2) ∧ t 7 = p ∧ t 37 = Fw.sub s1 0 (tln l1) ∧ t 38 = .int .i64 (tln l1 : Int) ∧ RowKit.Below w.heap.size w w2 ∧ ∃ (i : Nat) (ls : List (El 8)), t 39 = .int .i64 (i : Int) ∧ i ≤ tln l1 ∧
      Ow w.heap.size w2 p ls ∧ ls.length = tln l1 + tln l2 - 1 ∧ co ls = co ((tr l1).take i) * co (tr l2))
    (fun t _ => tln l1 - (toI (t 39)).toNat) ⟨rfl, rfl, rfl, rfl, rfl, hB, 0, _, rfl, by omega, ho, by simp, by rw [List.take_zero, co_nil, Ps.zero_mul, co_replicate]⟩ ?_
  clear ho hB
  rintro t w2 ⟨t0, t2, t7, t37, t38, hB, i, ls, t39, hi, ho, hll, hc⟩
  by_cases hlt : i < tln l1
  · have hlt1 : i < (tr l1).length := by rw [tr_len]; exact hlt
    have hlt1' : i < l1.length := by omega
    have g1 : Sl w2 (Fw.sub s1 0 (tln l1)) (tr l1) := (h1.up hB).sub (Nat.zero_le _) hle1
    have g2 : Sl w2 (Fw.sub s2 0 (tln l2)) (tr l2) := (h2.up hB).sub (Nat.zero_le _) hle2
    have wi : IntKind.i64.wrap ((i : Int) + 1) = ((i + 1 : Nat) : Int) := by rw [wrap_id (by omega) (by omega)]; omega
    by_cases hx : (tr l1)[i] = 0
    · have d1 : decide ((((tr l1)[i]).v.toNat : Int) = 0) = true := decide_eq_true ((el_zero _).mpr hx)
      simp only [WS, List.getElem_cons_zero, List.getElem_cons_succ, Option.isNone_some, Option.isNone_none, List.getD_cons_zero, List.getD_cons_succ, I.at, atL, atO, atP, evp, evs, retV, ↓reduceIte, Nat.reduceEqDiff, reduceCtorEq, t0, t2, t7, t37, t38, t39, show decide ((i : Int) < (tln l1 : Int)) = true from decide_eq_true (by omega), g1.Xix hlt1, g1.Xld hlt1, cell_e8, d1, wi, toI_int]
      refine ⟨⟨hB, i + 1, ls, rfl, by omega, ho, hll, ?_⟩, by omega⟩
      rw [hc, co_take_succ _ hlt1, hx, mono_zero, Ps.add_zero]
    · have d1 : decide ((((tr l1)[i]).v.toNat : Int) = 0) = false := decide_eq_false (fun e => hx ((el_zero _).mp e))
      simp only [WS, List.getElem_cons_zero, List.getElem_cons_succ, Option.isNone_some, Option.isNone_none, List.getD_cons_zero, List.getD_cons_succ, I.at, atL, atO, atP, evp, evs, retV, ↓reduceIte, Nat.reduceEqDiff, reduceCtorEq, t0, t2, t7, t37, t38, t39, show decide ((i : Int) < (tln l1 : Int)) = true from decide_eq_true (by omega), g1.Xix hlt1, g1.Xld hlt1, cell_e8, d1, g2.Xlen, tr_len]
      refine loop_of (fun t w2 => t 0 = .pointer (some ⟨b, 0, none⟩) ∧ t 2 = Fw.sub s2 0 (tln l2) ∧ t 7 = p ∧ t 8 = .int .i64 (i : Int) ∧ t 9 = .int .u8 (((tr l1)[i]).v.toNat : Int) ∧ t 37 = Fw.sub s1 0 (tln l1) ∧ t 38 = .int .i64 (tln l1 : Int) ∧ t 39 = .int .i64 (i : Int) ∧
          t 46 = Fw.sub s2 0 (tln l2) ∧ t 47 = .int .i64 (tln l2 : Int) ∧ RowKit.Below w.heap.size w w2 ∧ ∃ (j : Nat) (ls : List (El 8)), t 48 = .int .i64 (j : Int) ∧ j ≤ tln l2 ∧
          Ow w.heap.size w2 p ls ∧ ls.length = tln l1 + tln l2 - 1 ∧ ∀ k, (co ls).c k = (co ((tr l1).take i) * co (tr l2)).c k + (if i ≤ k ∧ k < i + j then (tr l1)[i] * (co (tr l2)).c (k - i) else 0))
        (fun t _ => tln l2 - (toI (t 48)).toNat) ⟨by simp only [WS, List.getElem_cons_zero, List.getElem_cons_succ, Option.isNone_some, Option.isNone_none, List.getD_cons_zero, List.getD_cons_succ, I.at, atL, atO, atP, evp, evs, retV, ↓reduceIte, Nat.reduceEqDiff, reduceCtorEq, t0], by simp only [WS, List.getElem_cons_zero, List.getElem_cons_succ, Option.isNone_some, Option.isNone_none, List.getD_cons_zero, List.getD_cons_succ, I.at, atL, atO, atP, evp, evs, retV, ↓reduceIte, Nat.reduceEqDiff, reduceCtorEq, t2], by simp only [WS, List.getElem_cons_zero, List.getElem_cons_succ, Option.isNone_some, Option.isNone_none, List.getD_cons_zero, List.getD_cons_succ, I.at, atL, atO, atP, evp, evs, retV, ↓reduceIte, Nat.reduceEqDiff, reduceCtorEq, t7], rfl, rfl, by simp only [WS, List.getElem_cons_zero, List.getElem_cons_succ, Option.isNone_some, Option.isNone_none, List.getD_cons_zero, List.getD_cons_succ, I.at, atL, atO, atP, evp, evs, retV, ↓reduceIte, Nat.reduceEqDiff, reduceCtorEq, t37], by simp only [WS, List.getElem_cons_zero, List.getElem_cons_succ, Option.isNone_some, Option.isNone_none, List.getD_cons_zero, List.getD_cons_succ, I.at, atL, atO, atP, evp, evs, retV, ↓reduceIte, Nat.reduceEqDiff, reduceCtorEq, t38], by simp only [WS, List.getElem_cons_zero, List.getElem_cons_succ, Option.isNone_some, Option.isNone_none, List.getD_cons_zero, List.getD_cons_succ, I.at, atL, atO, atP, evp, evs, retV, ↓reduceIte, Nat.reduceEqDiff, reduceCtorEq, t39], rfl, rfl, hB, 0, ls, rfl, by omega, ho, hll, fun k => by rw [hc, if_neg (by omega), El.add_zero]⟩ ?_
      clear ho hc hll hB t0 t2 t7 t37 t38 t39 g1 g2
      rintro t w3 ⟨t0, t2, t7, t8, t9, t37, t38, t39, t46, t47, hB, j, ls, t48, hj, ho, hll, hc⟩
      have g2 : Sl w3 (Fw.sub s2 0 (tln l2)) (tr l2) := (h2.up hB).sub (Nat.zero_le _) hle2
      by_cases hjl : j < tln l2
      · have hjl2 : j < (tr l2).length := by rw [tr_len]; exact hjl
        have hij : i + j < ls.length := by omega
        have wij : IntKind.i64.wrap ((i : Int) + (j : Int)) = ((i + j : Nat) : Int) := by rw [wrap_id (by omega) (by omega)]; omega
        have wj : IntKind.i64.wrap ((j : Int) + 1) = ((j + 1 : Nat) : Int) := by rw [wrap_id (by omega) (by omega)]; omega
        obtain ⟨b', mv', iv', hbe, hrow', hm', -⟩ := hr.up hB
        cases hbe
        simp only [WS, List.getElem_cons_zero, List.getElem_cons_succ, Option.isNone_some, Option.isNone_none, List.getD_cons_zero, List.getD_cons_succ, I.at, atL, atO, atP, evp, evs, retV, ↓reduceIte, Nat.reduceEqDiff, reduceCtorEq, t0, t2, t7, t8, t9, t37, t38, t39, t46, t47, t48, show decide ((j : Int) < (tln l2 : Int)) = true from decide_eq_true (by omega), g2.Xix hjl2, g2.Xld hjl2, cell_e8]
        refine WP_dops ?_
        have hos := ho.sl.drew
        simp only [ES, List.mem_cons, List.not_mem_nil, implies_true, forall_const, WS, List.getElem_cons_zero, List.getElem_cons_succ, Option.isNone_some, Option.isNone_none, List.getD_cons_zero, List.getD_cons_succ, I.at, atL, atO, atP, evp, evs, retV, ↓reduceIte, Nat.reduceEqDiff, reduceCtorEq, t0, t7, t8, t9, wij, hos.Eix hij, hos.Eld hij, addr_add0, Nat.add_zero, hrow'.drew.Eld (show 0 < [mv', iv'].length by simp), cell_e8]
        refine E_callK (Mul_b.call (w := w3.drew) hm' _ _ fun w4 hl => ?_)
        have hsee := (hl.sl hos).sees hij Try.prog
        rw [cell_e8] at hsee
        have hos4 := hl.sl hos
        simp only [ES, List.mem_cons, List.not_mem_nil, implies_true, forall_const, WS, List.getElem_cons_zero, List.getElem_cons_succ, Option.isNone_some, Option.isNone_none, List.getD_cons_zero, List.getD_cons_succ, I.at, atL, atO, atP, evp, evs, retV, ↓reduceIte, Nat.reduceEqDiff, reduceCtorEq, hsee, xor8, hos4.Eix hij]
        refine Ow.Est (hl.ow ho.drew) hij (ls[i + j] + (tr l1)[i] * (tr l2)[j]) fun w5 ho5 hg5 => ?_
        have hB5 : RowKit.Below w.heap.size w w5 := (hl.bel (hB.trans ((bel_drew w3).mono hB.size)) hB.size).grown hg5 (by rw [hl.size]; exact hB.size) fun b hb => (ho.blk b hb).1
        simp only [ES, List.mem_cons, List.not_mem_nil, implies_true, forall_const, WS, List.getElem_cons_zero, List.getElem_cons_succ, Option.isNone_some, Option.isNone_none, List.getD_cons_zero, List.getD_cons_succ, I.at, atL, atO, atP, evp, evs, retV, ↓reduceIte, Nat.reduceEqDiff, reduceCtorEq, t0, t2, t7, t8, t9, t37, t38, t39, t46, t47, t48, wj, toI_int]
        refine ⟨⟨hB5, j + 1, _, rfl, by omega, ho5, by simp [hll], fun k => ?_⟩, by omega⟩
        rw [co_set _ hij, hc k]
        by_cases hk : k = i + j
        · subst hk
          rw [if_pos rfl, if_pos ⟨by omega, by omega⟩]
          have := hc (i + j)
          rw [if_neg (by omega), El.add_zero, co_get ls hij] at this
          rw [this, show i + j - i = j by omega, co_get _ hjl2]
        · rw [if_neg hk]
          have : (i ≤ k ∧ k < i + (j + 1)) = (i ≤ k ∧ k < i + j) := propext ⟨fun h => by omega, fun h => by omega⟩
          simp only [this]
      · have wi : IntKind.i64.wrap ((i : Int) + 1) = ((i + 1 : Nat) : Int) := by rw [wrap_id (by omega) (by omega)]; omega
        simp only [WS, List.getElem_cons_zero, List.getElem_cons_succ, Option.isNone_some, Option.isNone_none, List.getD_cons_zero, List.getD_cons_succ, I.at, atL, atO, atP, evp, evs, retV, ↓reduceIte, Nat.reduceEqDiff, reduceCtorEq, t0, t2, t7, t8, t9, t37, t38, t39, t46, t47, t48, show decide ((j : Int) < (tln l2 : Int)) = false from decide_eq_false (by omega), wi, toI_int]
        refine ⟨⟨hB, i + 1, ls, rfl, by omega, ho, hll, ?_⟩, by omega⟩
        rw [co_take_succ _ hlt1, Ps.add_mul]
        refine Ps.ext fun k => ?_
        rw [hc k, Ps.add_c, Ps.mono_mul]
        congr 1
        by_cases hik : i ≤ k
        · rw [if_pos hik]
          by_cases hk2 : k < i + j
          · rw [if_pos ⟨hik, hk2⟩]
          · rw [if_neg (by omega), tr_co, tln_dg l2 (k - i) (by omega), El.mul_zero]
        · rw [if_neg (by omega), if_neg hik]
  · have hi' : i = tln l1 := by omega
    have hco : co ls = co l1 * co l2 := by
      rw [hc, hi', show (tr l1).take (tln l1) = tr l1 by rw [← tr_len, List.take_length], tr_co, tr_co]
    simp only [WS, List.getElem_cons_zero, List.getElem_cons_succ, Option.isNone_some, Option.isNone_none, List.getD_cons_zero, List.getD_cons_succ, I.at, atL, atO, atP, evp, evs, retV, ↓reduceIte, Nat.reduceEqDiff, reduceCtorEq, t0, t2, t7, t37, t38, t39, show decide ((i : Int) < (tln l1 : Int)) = false from decide_eq_false (by omega)]
    exact ⟨ls, ho, tr_mul hco (by omega) (by omega) hll, hco, by omega, hB⟩
end Go.Proofs.Ytcdagkcchfibjaa.Fw
