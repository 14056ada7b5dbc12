import Derived.Test.YtcdagkcchfibjaaProg
import Derived.Test.YtcdagkcchfibjaaSS04aE
set_option linter.all false
set_option linter.unusedVariables false
set_option linter.unusedSimpArgs false
set_option maxRecDepth 100000
namespace Go.Proofs.Ytcdagkcchfibjaa.Fw
open Go Go.Fw Go.Proofs
def c_polys_copied_w : C := .seq (.ops [⟨0, (some 2), none, .mov (.c (.slice none 0 0)), []⟩]) (.seq (.ops [⟨0, (some 3), none, .mov (.t 0), []⟩, ⟨1, (some 4), none, .mov (.t 0), []⟩, ⟨2, (some 5), none, .call (.c (.func (.func 91) #[] #[])) [.t 4], []⟩, ⟨3, (some 6), none, .bin .add (.t 5) (.c (.int .i64 1)), []⟩, ⟨4, (some 7), none, .slc 1 (.t 3) none (some (.t 6)) none, []⟩, ⟨5, (some 8), none, .app 28 2 [.int .u16 0] (.c (.slice none 0 0)) (.t 7), []⟩, ⟨6, (some 2), none, .mov (.t 8), []⟩]) .ret)
theorem run_polys_copied_w {args : List Value} {w : World} {K : Value → World → Prop} (hn : args.length ≤ 9) (h : WP Try.prog c_polys_copied_w (endQ [.t 2] K) (initT args) w) : CallV Try.prog 84 args w K :=
  call_of follows Try.func84 (by kernel_rfl) (by kernel_rfl) hn h
def c_polys_copied_b : C := .seq (.ops [⟨0, (some 2), none, .mov (.c (.slice none 0 0)), []⟩]) (.seq (.ops [⟨0, (some 3), none, .mov (.t 0), []⟩, ⟨1, (some 4), none, .mov (.t 0), []⟩, ⟨2, (some 5), none, .call (.c (.func (.func 93) #[] #[])) [.t 4], []⟩, ⟨3, (some 6), none, .bin .add (.t 5) (.c (.int .i64 1)), []⟩, ⟨4, (some 7), none, .slc 1 (.t 3) none (some (.t 6)) none, []⟩, ⟨5, (some 8), none, .app 5 1 [.int .u8 0] (.c (.slice none 0 0)) (.t 7), []⟩, ⟨6, (some 2), none, .mov (.t 8), []⟩]) .ret)
theorem run_polys_copied_b {args : List Value} {w : World} {K : Value → World → Prop} (hn : args.length ≤ 9) (h : WP Try.prog c_polys_copied_b (endQ [.t 2] K) (initT args) w) : CallV Try.prog 85 args w K :=
  call_of follows Try.func85 (by kernel_rfl) (by kernel_rfl) hn h
def c_polys_added_w : C := .seq (.ops [⟨0, (some 4), none, .mov (.c (.slice none 0 0)), []⟩]) (.seq (.seq (.ops [⟨0, (some 8), none, .mov (.t 0), []⟩, ⟨1, (some 9), none, .len (.t 8), []⟩, ⟨2, (some 10), none, .mov (.t 1), []⟩, ⟨3, (some 11), none, .len (.t 10), []⟩, ⟨4, (some 12), none, .bin .lss (.t 9) (.t 11), []⟩]) (.ite (.t 12) (.ops [⟨0, (some 13), none, .mov (.t 1), []⟩, ⟨1, (some 14), none, .mov (.t 0), []⟩, ⟨2, (some 0), none, .mov (.t 13), []⟩, ⟨3, (some 1), none, .mov (.t 14), []⟩]) .skip)) (.seq (.ops [⟨0, (some 15), none, .mov (.t 0), []⟩, ⟨1, (some 16), none, .app 28 2 [.int .u16 0] (.c (.slice none 0 0)) (.t 15), []⟩, ⟨2, (some 5), none, .mov (.t 16), []⟩]) (.seq (.seq (.ops [⟨0, (some 17), none, .mov (.t 1), []⟩, ⟨1, (some 18), none, .len (.t 17), []⟩, ⟨2, (some 19), none, .mov (.c (.int .i64 0)), []⟩]) (.block 0 (.loop (.seq (.ops [⟨0, (some 20), none, .bin .lss (.t 19) (.t 18), []⟩]) (.seq (.ite (.t 20) .skip (.exit 0)) (.seq (.block 1 (.seq (.ops [⟨0, (some 21), none, .mov (.t 19), []⟩, ⟨1, (some 22), none, .ixs 1 (.t 17) (.t 19), []⟩, ⟨2, (some 23), none, .ld (.t 22), []⟩, ⟨3, (some 6), none, .mov (.t 21), []⟩, ⟨4, (some 7), none, .mov (.t 23), []⟩]) (.ops [⟨0, (some 24), none, .mov (.t 5), []⟩, ⟨1, (some 25), none, .mov (.t 6), []⟩, ⟨2, (some 26), none, .ixs 1 (.t 24) (.t 25), []⟩, ⟨3, (some 27), none, .ld (.t 26), []⟩, ⟨4, (some 28), none, .mov (.t 7), []⟩, ⟨5, (some 29), none, .bin .xor (.t 27) (.t 28), []⟩, ⟨6, (some 30), none, .ixs 1 (.t 24) (.t 25), []⟩, ⟨7, none, none, .st (.t 30) (.t 29), []⟩]))) (.ops [⟨0, (some 31), none, .bin .add (.t 19) (.c (.int .i64 1)), []⟩, ⟨1, (some 19), none, .mov (.t 31), []⟩]))))))) (.seq (.ops [⟨0, (some 32), none, .mov (.t 5), []⟩, ⟨1, (some 33), none, .mov (.t 5), []⟩, ⟨2, (some 34), none, .call (.c (.func (.func 91) #[] #[])) [.t 33], []⟩, ⟨3, (some 35), none, .bin .add (.t 34) (.c (.int .i64 1)), []⟩, ⟨4, (some 36), none, .slc 1 (.t 32) none (some (.t 35)) none, []⟩, ⟨5, (some 4), none, .mov (.t 36), []⟩]) .ret))))
theorem run_polys_added_w {args : List Value} {w : World} {K : Value → World → Prop} (hn : args.length ≤ 37) (h : WP Try.prog c_polys_added_w (endQ [.t 4] K) (initT args) w) : CallV Try.prog 89 args w K :=
  call_of follows Try.func89 (by kernel_rfl) (by kernel_rfl) hn h
def c_polys_added_b : C := .seq (.ops [⟨0, (some 4), none, .mov (.c (.slice none 0 0)), []⟩]) (.seq (.seq (.ops [⟨0, (some 8), none, .mov (.t 0), []⟩, ⟨1, (some 9), none, .len (.t 8), []⟩, ⟨2, (some 10), none, .mov (.t 1), []⟩, ⟨3, (some 11), none, .len (.t 10), []⟩, ⟨4, (some 12), none, .bin .lss (.t 9) (.t 11), []⟩]) (.ite (.t 12) (.ops [⟨0, (some 13), none, .mov (.t 1), []⟩, ⟨1, (some 14), none, .mov (.t 0), []⟩, ⟨2, (some 0), none, .mov (.t 13), []⟩, ⟨3, (some 1), none, .mov (.t 14), []⟩]) .skip)) (.seq (.ops [⟨0, (some 15), none, .mov (.t 0), []⟩, ⟨1, (some 16), none, .app 5 1 [.int .u8 0] (.c (.slice none 0 0)) (.t 15), []⟩, ⟨2, (some 5), none, .mov (.t 16), []⟩]) (.seq (.seq (.ops [⟨0, (some 17), none, .mov (.t 1), []⟩, ⟨1, (some 18), none, .len (.t 17), []⟩, ⟨2, (some 19), none, .mov (.c (.int .i64 0)), []⟩]) (.block 0 (.loop (.seq (.ops [⟨0, (some 20), none, .bin .lss (.t 19) (.t 18), []⟩]) (.seq (.ite (.t 20) .skip (.exit 0)) (.seq (.block 1 (.seq (.ops [⟨0, (some 21), none, .mov (.t 19), []⟩, ⟨1, (some 22), none, .ixs 1 (.t 17) (.t 19), []⟩, ⟨2, (some 23), none, .ld (.t 22), []⟩, ⟨3, (some 6), none, .mov (.t 21), []⟩, ⟨4, (some 7), none, .mov (.t 23), []⟩]) (.ops [⟨0, (some 24), none, .mov (.t 5), []⟩, ⟨1, (some 25), none, .mov (.t 6), []⟩, ⟨2, (some 26), none, .ixs 1 (.t 24) (.t 25), []⟩, ⟨3, (some 27), none, .ld (.t 26), []⟩, ⟨4, (some 28), none, .mov (.t 7), []⟩, ⟨5, (some 29), none, .bin .xor (.t 27) (.t 28), []⟩, ⟨6, (some 30), none, .ixs 1 (.t 24) (.t 25), []⟩, ⟨7, none, none, .st (.t 30) (.t 29), []⟩]))) (.ops [⟨0, (some 31), none, .bin .add (.t 19) (.c (.int .i64 1)), []⟩, ⟨1, (some 19), none, .mov (.t 31), []⟩]))))))) (.seq (.ops [⟨0, (some 32), none, .mov (.t 5), []⟩, ⟨1, (some 33), none, .mov (.t 5), []⟩, ⟨2, (some 34), none, .call (.c (.func (.func 93) #[] #[])) [.t 33], []⟩, ⟨3, (some 35), none, .bin .add (.t 34) (.c (.int .i64 1)), []⟩, ⟨4, (some 36), none, .slc 1 (.t 32) none (some (.t 35)) none, []⟩, ⟨5, (some 4), none, .mov (.t 36), []⟩]) .ret))))
theorem run_polys_added_b {args : List Value} {w : World} {K : Value → World → Prop} (hn : args.length ≤ 37) (h : WP Try.prog c_polys_added_b (endQ [.t 4] K) (initT args) w) : CallV Try.prog 90 args w K :=
  call_of follows Try.func90 (by kernel_rfl) (by kernel_rfl) hn h
def c_polys_degree_w : C := .seq (.ops [⟨0, (some 2), none, .mov (.c (.int .i64 0)), []⟩]) (.seq (.ops [⟨0, (some 4), none, .mov (.t 0), []⟩, ⟨1, (some 5), none, .len (.t 4), []⟩, ⟨2, (some 6), none, .bin .sub (.t 5) (.c (.int .i64 1)), []⟩, ⟨3, (some 3), none, .mov (.t 6), []⟩]) (.seq (.block 0 (.loop (.seq (.seq (.ops [⟨0, (some 7), none, .mov (.t 3), []⟩, ⟨1, (some 8), none, .bin .geq (.t 7) (.c (.int .i64 0)), []⟩, ⟨2, (some 9), none, .mov (.t 8), []⟩, ⟨3, (some 10), (some (9, true)), .mov (.t 0), []⟩, ⟨4, (some 11), (some (9, true)), .mov (.t 3), []⟩, ⟨5, (some 12), (some (9, true)), .ixs 1 (.t 10) (.t 11), []⟩, ⟨6, (some 13), (some (9, true)), .ld (.t 12), []⟩, ⟨7, (some 14), (some (9, true)), .bin .eql (.t 13) (.c (.int .u16 0)), []⟩, ⟨8, (some 15), none, .pick (.t 9) (.t 14) (.c (.bool false)), []⟩]) (.ite (.t 15) .skip (.exit 0))) (.block 1 (.ops [⟨0, (some 16), none, .mov (.t 3), []⟩, ⟨1, (some 17), none, .bin .sub (.t 16) (.c (.int .i64 1)), []⟩, ⟨2, (some 3), none, .mov (.t 17), []⟩]))))) (.seq (.ops [⟨0, (some 18), none, .mov (.t 3), []⟩, ⟨1, (some 2), none, .mov (.t 18), []⟩]) .ret)))
theorem run_polys_degree_w {args : List Value} {w : World} {K : Value → World → Prop} (hn : args.length ≤ 19) (h : WP Try.prog c_polys_degree_w (endQ [.t 2] K) (initT args) w) : CallV Try.prog 91 args w K :=
  call_of follows Try.func91 (by kernel_rfl) (by kernel_rfl) hn h
def c_polys_degree_b : C := .seq (.ops [⟨0, (some 2), none, .mov (.c (.int .i64 0)), []⟩]) (.seq (.ops [⟨0, (some 4), none, .mov (.t 0), []⟩, ⟨1, (some 5), none, .len (.t 4), []⟩, ⟨2, (some 6), none, .bin .sub (.t 5) (.c (.int .i64 1)), []⟩, ⟨3, (some 3), none, .mov (.t 6), []⟩]) (.seq (.block 0 (.loop (.seq (.seq (.ops [⟨0, (some 7), none, .mov (.t 3), []⟩, ⟨1, (some 8), none, .bin .geq (.t 7) (.c (.int .i64 0)), []⟩, ⟨2, (some 9), none, .mov (.t 8), []⟩, ⟨3, (some 10), (some (9, true)), .mov (.t 0), []⟩, ⟨4, (some 11), (some (9, true)), .mov (.t 3), []⟩, ⟨5, (some 12), (some (9, true)), .ixs 1 (.t 10) (.t 11), []⟩, ⟨6, (some 13), (some (9, true)), .ld (.t 12), []⟩, ⟨7, (some 14), (some (9, true)), .bin .eql (.t 13) (.c (.int .u8 0)), []⟩, ⟨8, (some 15), none, .pick (.t 9) (.t 14) (.c (.bool false)), []⟩]) (.ite (.t 15) .skip (.exit 0))) (.block 1 (.ops [⟨0, (some 16), none, .mov (.t 3), []⟩, ⟨1, (some 17), none, .bin .sub (.t 16) (.c (.int .i64 1)), []⟩, ⟨2, (some 3), none, .mov (.t 17), []⟩]))))) (.seq (.ops [⟨0, (some 18), none, .mov (.t 3), []⟩, ⟨1, (some 2), none, .mov (.t 18), []⟩]) .ret)))
theorem run_polys_degree_b {args : List Value} {w : World} {K : Value → World → Prop} (hn : args.length ≤ 19) (h : WP Try.prog c_polys_degree_b (endQ [.t 2] K) (initT args) w) : CallV Try.prog 93 args w K :=
  call_of follows Try.func93 (by kernel_rfl) (by kernel_rfl) hn h
end Go.Proofs.Ytcdagkcchfibjaa.Fw
namespace Go.Proofs.Ytcdagkcchfibjaa.Fw
open Go Go.Fw
theorem polys_degree_w_spec (w : World) (s : Value) (l : List (El 16)) (h : Sl w s l) (hb : l.length ≤ 70368744175616) : CallV Try.prog 91 [s] w fun v w' => v = .int .i64 ((tln l : Int) - 1) ∧ w' = w := by
  refine run_polys_degree_w (by simp) ?_
  simp only [c_polys_degree_w, List.getElem_cons_zero, List.getElem_cons_succ, and_true, true_and, decide_true, decide_false, Bool.not_true, Bool.not_false, lZ40, lZ37, lZ32, lZ12, lZ26, lZ39, lZ22, lZ1, lZ4, lZ6, lZ0, lZ2, lZ5, lZ83, lZ34, lZ27, I.at, atL, atO, atP, lZ20, lZ18, lZ97, lZ98, evp, evs, lZ10, ↓reduceIte, Nat.reduceEqDiff, reduceCtorEq, Value.bool.injEq, Bool.false_eq_true, Bool.true_eq_false, lZ8, lZ7, lZ68, lZ43, lZ91, lZ81, lZ93, lZ82, lZ96, lZ46, lZ21, lZ67, lZ64, lZ49, lZ52, lZ59, lZ66, lZ95, lZ56, lZ76, lZ57, lZ61, lZ79, lZ50, lZ42, lZ84, lZ55, lZ33, lZ75, lZ77, lZ73, lZ36, bff, btf, Option.isNone_some, Option.isNone_none, lZ9, lZ16, lZ3, retV, lZ44, lZ30, lZ25, lZ23, lZ14, List.getD_cons_zero, List.getD_cons_succ, h.Xlen, wrap_id (show -9223372036854775808 ≤ (l.length : Int) - 1 by omega) (show (l.length : Int) - 1 < 9223372036854775808 by omega)]
  have hle := tln_le l
  refine loop_of (fun t w' => w' = w ∧ t 0 = s ∧ ∃ k : Nat, t 3 = .int .i64 ((k : Int) - 1) ∧ tln l ≤ k ∧ k ≤ l.length) (fun t _ => (toI (t 3) + 1).toNat) ⟨rfl, rfl, l.length, rfl, hle, Nat.le_refl _⟩ ?_
  rintro t w' ⟨rfl, h0, k, h3, hk1, hk2⟩
  rcases Nat.eq_zero_or_pos k with rfl | hp
  · have : tln l = 0 := by omega
    simp only [List.getElem_cons_zero, List.getElem_cons_succ, and_true, true_and, decide_true, decide_false, Bool.not_true, Bool.not_false, lZ40, lZ37, lZ32, lZ12, lZ26, lZ39, lZ22, lZ1, lZ4, lZ6, lZ0, lZ2, lZ5, lZ83, lZ34, lZ27, I.at, atL, atO, atP, lZ20, lZ18, lZ97, lZ98, evp, evs, lZ10, ↓reduceIte, Nat.reduceEqDiff, reduceCtorEq, Value.bool.injEq, Bool.false_eq_true, Bool.true_eq_false, lZ8, lZ7, lZ68, lZ43, lZ91, lZ81, lZ93, lZ82, lZ96, lZ46, lZ21, lZ67, lZ64, lZ49, lZ52, lZ59, lZ66, lZ95, lZ56, lZ76, lZ57, lZ61, lZ79, lZ50, lZ42, lZ84, lZ55, lZ33, lZ75, lZ77, lZ73, lZ36, bff, btf, Option.isNone_some, Option.isNone_none, lZ9, lZ16, lZ3, retV, lZ44, lZ30, lZ25, lZ23, lZ14, List.getD_cons_zero, List.getD_cons_succ, h0, h3, show decide ((0 : Int) ≤ ((0 : Nat) : Int) - 1) = false from rfl, this]
  · obtain ⟨k, rfl⟩ : ∃ j, k = j + 1 := ⟨k - 1, by omega⟩
    have e1 : ((k + 1 : Nat) : Int) - 1 = (k : Int) := by omega
    rw [e1] at h3
    have hkl : k < l.length := by omega
    by_cases hz : l[k] = 0
    · have d1 : decide (((l[k]).v.toNat : Int) = 0) = true := decide_eq_true ((el_zero _).mpr hz)
      simp only [List.getElem_cons_zero, List.getElem_cons_succ, and_true, true_and, decide_true, decide_false, Bool.not_true, Bool.not_false, lZ40, lZ37, lZ32, lZ12, lZ26, lZ39, lZ22, lZ1, lZ4, lZ6, lZ0, lZ2, lZ5, lZ83, lZ34, lZ27, I.at, atL, atO, atP, lZ20, lZ18, lZ97, lZ98, evp, evs, lZ10, ↓reduceIte, Nat.reduceEqDiff, reduceCtorEq, Value.bool.injEq, Bool.false_eq_true, Bool.true_eq_false, lZ8, lZ7, lZ68, lZ43, lZ91, lZ81, lZ93, lZ82, lZ96, lZ46, lZ21, lZ67, lZ64, lZ49, lZ52, lZ59, lZ66, lZ95, lZ56, lZ76, lZ57, lZ61, lZ79, lZ50, lZ42, lZ84, lZ55, lZ33, lZ75, lZ77, lZ73, lZ36, bff, btf, Option.isNone_some, Option.isNone_none, lZ9, lZ16, lZ3, retV, lZ44, lZ30, lZ25, lZ23, lZ14, List.getD_cons_zero, List.getD_cons_succ, h0, h3, show decide ((0 : Int) ≤ (k : Int)) = true by simp, h.Xix hkl, h.Xld hkl, cell_e16, d1, wrap_id (show -9223372036854775808 ≤ (k : Int) - 1 by omega) (show (k : Int) - 1 < 9223372036854775808 by omega), toI_int]
      refine ⟨⟨k, rfl, ?_, by omega⟩, by omega⟩
      rcases Nat.lt_or_ge k (tln l) with h1 | h1
      · exfalso
        refine tln_top l k (by omega) ?_
        rw [co_get l hkl]; exact hz
      · exact h1
    · have d1 : decide (((l[k]).v.toNat : Int) = 0) = false := decide_eq_false (fun e => hz ((el_zero _).mp e))
      have : tln l = k + 1 := by
        rcases Nat.lt_or_ge (tln l) (k + 1) with h1 | h1
        · exfalso
          have := tln_dg l k (by omega)
          rw [co_get l hkl] at this
          exact hz this
        · omega
      simp only [List.getElem_cons_zero, List.getElem_cons_succ, and_true, true_and, decide_true, decide_false, Bool.not_true, Bool.not_false, lZ40, lZ37, lZ32, lZ12, lZ26, lZ39, lZ22, lZ1, lZ4, lZ6, lZ0, lZ2, lZ5, lZ83, lZ34, lZ27, I.at, atL, atO, atP, lZ20, lZ18, lZ97, lZ98, evp, evs, lZ10, ↓reduceIte, Nat.reduceEqDiff, reduceCtorEq, Value.bool.injEq, Bool.false_eq_true, Bool.true_eq_false, lZ8, lZ7, lZ68, lZ43, lZ91, lZ81, lZ93, lZ82, lZ96, lZ46, lZ21, lZ67, lZ64, lZ49, lZ52, lZ59, lZ66, lZ95, lZ56, lZ76, lZ57, lZ61, lZ79, lZ50, lZ42, lZ84, lZ55, lZ33, lZ75, lZ77, lZ73, lZ36, bff, btf, Option.isNone_some, Option.isNone_none, lZ9, lZ16, lZ3, retV, lZ44, lZ30, lZ25, lZ23, lZ14, List.getD_cons_zero, List.getD_cons_succ, h0, h3, show decide ((0 : Int) ≤ (k : Int)) = true by simp, h.Xix hkl, h.Xld hkl, cell_e16, d1, this]
      simp only [List.getElem_cons_zero, List.getElem_cons_succ, and_true, true_and, decide_true, decide_false, Bool.not_true, Bool.not_false, lZ40, lZ37, lZ32, lZ12, lZ26, lZ39, lZ22, lZ1, lZ4, lZ6, lZ0, lZ2, lZ5, lZ83, lZ34, lZ27, I.at, atL, atO, atP, lZ20, lZ18, lZ97, lZ98, evp, evs, lZ10, ↓reduceIte, Nat.reduceEqDiff, reduceCtorEq, Value.bool.injEq, Bool.false_eq_true, Bool.true_eq_false, lZ8, lZ7, lZ68, lZ43, lZ91, lZ81, lZ93, lZ82, lZ96, lZ46, lZ21, lZ67, lZ64, lZ49, lZ52, lZ59, lZ66, lZ95, lZ56, lZ76, lZ57, lZ61, lZ79, lZ50, lZ42, lZ84, lZ55, lZ33, lZ75, lZ77, lZ73, lZ36, bff, btf, Option.isNone_some, Option.isNone_none, lZ9, lZ16, lZ3, retV, lZ44, lZ30, lZ25, lZ23, lZ14, List.getD_cons_zero, List.getD_cons_succ, e1]
theorem polys_copied_w_spec (w : World) (s : Value) (l : List (El 16)) (h : Sl w s l) (hb : l.length ≤ 70368744175616) :
    CallV Try.prog 84 [s] w fun v w' => Ow w.heap.size w' v (tr l) ∧ RowKit.Below w.heap.size w w' := by
  refine run_polys_copied_w (by simp) ?_
  have hle := tln_le l
  simp only [c_polys_copied_w, List.getElem_cons_zero, List.getElem_cons_succ, and_true, true_and, decide_true, decide_false, Bool.not_true, Bool.not_false, lZ40, lZ37, lZ32, lZ12, lZ26, lZ39, lZ22, lZ1, lZ4, lZ6, lZ0, lZ2, lZ5, lZ83, lZ34, lZ27, I.at, atL, atO, atP, lZ20, lZ18, lZ97, lZ98, evp, evs, lZ10, ↓reduceIte, Nat.reduceEqDiff, reduceCtorEq, Value.bool.injEq, Bool.false_eq_true, Bool.true_eq_false, lZ8, lZ7, lZ68, lZ43, lZ91, lZ81, lZ93, lZ82, lZ96, lZ46, lZ21, lZ67, lZ64, lZ49, lZ52, lZ59, lZ66, lZ95, lZ56, lZ76, lZ57, lZ61, lZ79, lZ50, lZ42, lZ84, lZ55, lZ33, lZ75, lZ77, lZ73, lZ36, bff, btf, Option.isNone_some, Option.isNone_none, lZ9, lZ16, lZ3, retV, lZ44, lZ30, lZ25, lZ23, lZ14, List.getD_cons_zero, List.getD_cons_succ]
  refine X_call0 ((polys_degree_w_spec w s l h hb).mono ?_)
  rintro v w' ⟨rfl, rfl⟩
  have e1 : IntKind.i64.wrap ((tln l : Int) - 1 + 1) = (tln l : Int) := by rw [wrap_id (by omega) (by omega)]; omega
  have hs := h.sub (show 0 ≤ tln l by omega) hle
  simp only [List.getElem_cons_zero, List.getElem_cons_succ, and_true, true_and, decide_true, decide_false, Bool.not_true, Bool.not_false, lZ40, lZ37, lZ32, lZ12, lZ26, lZ39, lZ22, lZ1, lZ4, lZ6, lZ0, lZ2, lZ5, lZ83, lZ34, lZ27, I.at, atL, atO, atP, lZ20, lZ18, lZ97, lZ98, evp, evs, lZ10, ↓reduceIte, Nat.reduceEqDiff, reduceCtorEq, Value.bool.injEq, Bool.false_eq_true, Bool.true_eq_false, lZ8, lZ7, lZ68, lZ43, lZ91, lZ81, lZ93, lZ82, lZ96, lZ46, lZ21, lZ67, lZ64, lZ49, lZ52, lZ59, lZ66, lZ95, lZ56, lZ76, lZ57, lZ61, lZ79, lZ50, lZ42, lZ84, lZ55, lZ33, lZ75, lZ77, lZ73, lZ36, bff, btf, Option.isNone_some, Option.isNone_none, lZ9, lZ16, lZ3, retV, lZ44, lZ30, lZ25, lZ23, lZ14, List.getD_cons_zero, List.getD_cons_succ, e1, h.XslcHi hle]
  refine Ow.Xapp (Ow.nil w'.heap.size w') hs (Nat.le_refl _) ?_ ?_ fun s' w2 ho hg _ => ?_
  · simp [maxBytes]; omega
  · simp; omega
  simp only [List.getElem_cons_zero, List.getElem_cons_succ, and_true, true_and, decide_true, decide_false, Bool.not_true, Bool.not_false, lZ40, lZ37, lZ32, lZ12, lZ26, lZ39, lZ22, lZ1, lZ4, lZ6, lZ0, lZ2, lZ5, lZ83, lZ34, lZ27, I.at, atL, atO, atP, lZ20, lZ18, lZ97, lZ98, evp, evs, lZ10, ↓reduceIte, Nat.reduceEqDiff, reduceCtorEq, Value.bool.injEq, Bool.false_eq_true, Bool.true_eq_false, lZ8, lZ7, lZ68, lZ43, lZ91, lZ81, lZ93, lZ82, lZ96, lZ46, lZ21, lZ67, lZ64, lZ49, lZ52, lZ59, lZ66, lZ95, lZ56, lZ76, lZ57, lZ61, lZ79, lZ50, lZ42, lZ84, lZ55, lZ33, lZ75, lZ77, lZ73, lZ36, bff, btf, Option.isNone_some, Option.isNone_none, lZ9, lZ16, lZ3, retV, lZ44, lZ30, lZ25, lZ23, lZ14, List.getD_cons_zero, List.getD_cons_succ]
  refine ⟨by simpa [tr] using ho, (RowKit.Below.refl _ _).grown hg (Nat.le_refl _) (fun b hb => by simp [Fw.blk, Value.ownBlock] at hb)⟩
theorem polys_added_w_spec (w : World) (s1 s2 : Value) (l1 l2 : List (El 16)) (h1 : Sl w s1 l1) (h2 : Sl w s2 l2) (hb1 : l1.length ≤ 70368744175616) (hb2 : l2.length ≤ 70368744175616) :
    CallV Try.prog 89 [s1, s2] w fun v w' => ∃ l, Ow w.heap.size w' v l ∧ tr l = l ∧ co l = co l1 + co l2 ∧ l.length ≤ max l1.length l2.length ∧ RowKit.Below w.heap.size w w' := by
  refine run_polys_added_w (by simp) ?_
  simp only [c_polys_added_w, List.getElem_cons_zero, List.getElem_cons_succ, and_true, true_and, decide_true, decide_false, Bool.not_true, Bool.not_false, lZ40, lZ37, lZ32, lZ12, lZ26, lZ39, lZ22, lZ1, lZ4, lZ6, lZ0, lZ2, lZ5, lZ83, lZ34, lZ27, I.at, atL, atO, atP, lZ20, lZ18, lZ97, lZ98, evp, evs, lZ10, ↓reduceIte, Nat.reduceEqDiff, reduceCtorEq, Value.bool.injEq, Bool.false_eq_true, Bool.true_eq_false, lZ8, lZ7, lZ68, lZ43, lZ91, lZ81, lZ93, lZ82, lZ96, lZ46, lZ21, lZ67, lZ64, lZ49, lZ52, lZ59, lZ66, lZ95, lZ56, lZ76, lZ57, lZ61, lZ79, lZ50, lZ42, lZ84, lZ55, lZ33, lZ75, lZ77, lZ73, lZ36, bff, btf, Option.isNone_some, Option.isNone_none, lZ9, lZ16, lZ3, retV, lZ44, lZ30, lZ25, lZ23, lZ14, List.getD_cons_zero, List.getD_cons_succ, h1.Xlen, h2.Xlen]
  refine iteW_cut (fun t w' => w' = w ∧ ∃ a b la lb, t 0 = a ∧ t 1 = b ∧ Sl w a la ∧ Sl w b lb ∧ lb.length ≤ la.length ∧ co la + co lb = co l1 + co l2 ∧ la.length ≤ max l1.length l2.length) ?_ ?_
  · by_cases hlt : l1.length < l2.length
    · simp only [List.getElem_cons_zero, List.getElem_cons_succ, and_true, true_and, decide_true, decide_false, Bool.not_true, Bool.not_false, lZ40, lZ37, lZ32, lZ12, lZ26, lZ39, lZ22, lZ1, lZ4, lZ6, lZ0, lZ2, lZ5, lZ83, lZ34, lZ27, I.at, atL, atO, atP, lZ20, lZ18, lZ97, lZ98, evp, evs, lZ10, ↓reduceIte, Nat.reduceEqDiff, reduceCtorEq, Value.bool.injEq, Bool.false_eq_true, Bool.true_eq_false, lZ8, lZ7, lZ68, lZ43, lZ91, lZ81, lZ93, lZ82, lZ96, lZ46, lZ21, lZ67, lZ64, lZ49, lZ52, lZ59, lZ66, lZ95, lZ56, lZ76, lZ57, lZ61, lZ79, lZ50, lZ42, lZ84, lZ55, lZ33, lZ75, lZ77, lZ73, lZ36, bff, btf, Option.isNone_some, Option.isNone_none, lZ9, lZ16, lZ3, retV, lZ44, lZ30, lZ25, lZ23, lZ14, List.getD_cons_zero, List.getD_cons_succ, show decide ((l1.length : Int) < (l2.length : Int)) = true from decide_eq_true (by omega)]
      exact ⟨_, _, _, _, rfl, rfl, h2, h1, by omega, Ps.add_comm _ _, by omega⟩
    · simp only [List.getElem_cons_zero, List.getElem_cons_succ, and_true, true_and, decide_true, decide_false, Bool.not_true, Bool.not_false, lZ40, lZ37, lZ32, lZ12, lZ26, lZ39, lZ22, lZ1, lZ4, lZ6, lZ0, lZ2, lZ5, lZ83, lZ34, lZ27, I.at, atL, atO, atP, lZ20, lZ18, lZ97, lZ98, evp, evs, lZ10, ↓reduceIte, Nat.reduceEqDiff, reduceCtorEq, Value.bool.injEq, Bool.false_eq_true, Bool.true_eq_false, lZ8, lZ7, lZ68, lZ43, lZ91, lZ81, lZ93, lZ82, lZ96, lZ46, lZ21, lZ67, lZ64, lZ49, lZ52, lZ59, lZ66, lZ95, lZ56, lZ76, lZ57, lZ61, lZ79, lZ50, lZ42, lZ84, lZ55, lZ33, lZ75, lZ77, lZ73, lZ36, bff, btf, Option.isNone_some, Option.isNone_none, lZ9, lZ16, lZ3, retV, lZ44, lZ30, lZ25, lZ23, lZ14, List.getD_cons_zero, List.getD_cons_succ, show decide ((l1.length : Int) < (l2.length : Int)) = false from decide_eq_false (by omega)]
      exact ⟨_, _, _, _, rfl, rfl, h1, h2, by omega, rfl, by omega⟩
  rintro t w' ⟨rfl, a, b, la, lb, ta, tb, ha, hb, hlen, hsum, hmax⟩
  simp only [List.getElem_cons_zero, List.getElem_cons_succ, and_true, true_and, decide_true, decide_false, Bool.not_true, Bool.not_false, lZ40, lZ37, lZ32, lZ12, lZ26, lZ39, lZ22, lZ1, lZ4, lZ6, lZ0, lZ2, lZ5, lZ83, lZ34, lZ27, I.at, atL, atO, atP, lZ20, lZ18, lZ97, lZ98, evp, evs, lZ10, ↓reduceIte, Nat.reduceEqDiff, reduceCtorEq, Value.bool.injEq, Bool.false_eq_true, Bool.true_eq_false, lZ8, lZ7, lZ68, lZ43, lZ91, lZ81, lZ93, lZ82, lZ96, lZ46, lZ21, lZ67, lZ64, lZ49, lZ52, lZ59, lZ66, lZ95, lZ56, lZ76, lZ57, lZ61, lZ79, lZ50, lZ42, lZ84, lZ55, lZ33, lZ75, lZ77, lZ73, lZ36, bff, btf, Option.isNone_some, Option.isNone_none, lZ9, lZ16, lZ3, retV, lZ44, lZ30, lZ25, lZ23, lZ14, List.getD_cons_zero, List.getD_cons_succ, ta, tb]
  refine Ow.Xapp (Ow.nil w'.heap.size w') ha (Nat.le_refl _) ?_ ?_ fun s' w2 ho hg _ => ?_
  · simp [maxBytes]; omega
  · simp; omega
  rw [List.nil_append] at ho
  have hB : RowKit.Below w'.heap.size w' w2 := (RowKit.Below.refl _ _).grown hg (Nat.le_refl _) (fun b hb => by simp [Fw.blk, Value.ownBlock] at hb)
  simp only [List.getElem_cons_zero, List.getElem_cons_succ, and_true, true_and, decide_true, decide_false, Bool.not_true, Bool.not_false, lZ40, lZ37, lZ32, lZ12, lZ26, lZ39, lZ22, lZ1, lZ4, lZ6, lZ0, lZ2, lZ5, lZ83, lZ34, lZ27, I.at, atL, atO, atP, lZ20, lZ18, lZ97, lZ98, evp, evs, lZ10, ↓reduceIte, Nat.reduceEqDiff, reduceCtorEq, Value.bool.injEq, Bool.false_eq_true, Bool.true_eq_false, lZ8, lZ7, lZ68, lZ43, lZ91, lZ81, lZ93, lZ82, lZ96, lZ46, lZ21, lZ67, lZ64, lZ49, lZ52, lZ59, lZ66, lZ95, lZ56, lZ76, lZ57, lZ61, lZ79, lZ50, lZ42, lZ84, lZ55, lZ33, lZ75, lZ77, lZ73, lZ36, bff, btf, Option.isNone_some, Option.isNone_none, lZ9, lZ16, lZ3, retV, lZ44, lZ30, lZ25, lZ23, lZ14, List.getD_cons_zero, List.getD_cons_succ, ta, tb, hb.Xlen]
  refine loop_of (fun t w => t 5 = s' ∧ t 17 = b ∧ t 18 = .int .i64 (lb.length : Int) ∧ RowKit.Below w'.heap.size w' w ∧ ∃ (i : Nat) (ls : List (El 16)), t 19 = .int .i64 (i : Int) ∧ i ≤ lb.length ∧ Ow w'.heap.size w s' ls ∧ ls.length = la.length ∧ ∀ k, (co ls).c k = (co la).c k + (if k < i then (co lb).c k else 0))
    (fun t _ => lb.length - (toI (t 19)).toNat) ⟨rfl, rfl, rfl, hB, 0, la, rfl, by omega, ho, rfl, fun k => (El.add_zero _).symm⟩ ?_
  rintro t w ⟨t5, t17, t18, hB, i, ls, t19, hi, ho, hll, hc⟩
  by_cases hlt : i < lb.length
  · have hb' := hb.up hB
    simp only [List.getElem_cons_zero, List.getElem_cons_succ, and_true, true_and, decide_true, decide_false, Bool.not_true, Bool.not_false, lZ40, lZ37, lZ32, lZ12, lZ26, lZ39, lZ22, lZ1, lZ4, lZ6, lZ0, lZ2, lZ5, lZ83, lZ34, lZ27, I.at, atL, atO, atP, lZ20, lZ18, lZ97, lZ98, evp, evs, lZ10, ↓reduceIte, Nat.reduceEqDiff, reduceCtorEq, Value.bool.injEq, Bool.false_eq_true, Bool.true_eq_false, lZ8, lZ7, lZ68, lZ43, lZ91, lZ81, lZ93, lZ82, lZ96, lZ46, lZ21, lZ67, lZ64, lZ49, lZ52, lZ59, lZ66, lZ95, lZ56, lZ76, lZ57, lZ61, lZ79, lZ50, lZ42, lZ84, lZ55, lZ33, lZ75, lZ77, lZ73, lZ36, bff, btf, Option.isNone_some, Option.isNone_none, lZ9, lZ16, lZ3, retV, lZ44, lZ30, lZ25, lZ23, lZ14, List.getD_cons_zero, List.getD_cons_succ, t5, t17, t18, t19, show decide ((i : Int) < (lb.length : Int)) = true from decide_eq_true (by omega), hb'.Xix hlt, hb'.Xld hlt, ho.sl.Xix (show i < ls.length by omega), ho.sl.Xld (show i < ls.length by omega), cell_e16, xor16]
    refine Ow.Xst ho (show i < ls.length by omega) (ls[i] + lb[i]) fun w3 ho3 hg3 => ?_
    simp only [List.getElem_cons_zero, List.getElem_cons_succ, and_true, true_and, decide_true, decide_false, Bool.not_true, Bool.not_false, lZ40, lZ37, lZ32, lZ12, lZ26, lZ39, lZ22, lZ1, lZ4, lZ6, lZ0, lZ2, lZ5, lZ83, lZ34, lZ27, I.at, atL, atO, atP, lZ20, lZ18, lZ97, lZ98, evp, evs, lZ10, ↓reduceIte, Nat.reduceEqDiff, reduceCtorEq, Value.bool.injEq, Bool.false_eq_true, Bool.true_eq_false, lZ8, lZ7, lZ68, lZ43, lZ91, lZ81, lZ93, lZ82, lZ96, lZ46, lZ21, lZ67, lZ64, lZ49, lZ52, lZ59, lZ66, lZ95, lZ56, lZ76, lZ57, lZ61, lZ79, lZ50, lZ42, lZ84, lZ55, lZ33, lZ75, lZ77, lZ73, lZ36, bff, btf, Option.isNone_some, Option.isNone_none, lZ9, lZ16, lZ3, retV, lZ44, lZ30, lZ25, lZ23, lZ14, List.getD_cons_zero, List.getD_cons_succ, t5, t17, t18, t19, wrap_id (show -9223372036854775808 ≤ (i : Int) + 1 by omega) (show (i : Int) + 1 < 9223372036854775808 by omega), toI_int]
    refine ⟨⟨hB.grown hg3 hB.size fun b hb => (ho.blk b hb).1, i + 1, _, rfl, by omega, ho3, by simp [hll], fun k => ?_⟩, by omega⟩
    by_cases hk : k = i
    · subst hk
      rw [co_get _ (by simp; omega), List.getElem_set_self, if_pos (by omega), co_get lb hlt]
      have := hc k
      rw [if_neg (by omega), El.add_zero, co_get ls (by omega)] at this
      rw [this]
    · have e1 : (co (ls.set i (ls[i] + lb[i]))).c k = (co ls).c k := by
        show (ls.set i _).getD k 0 = ls.getD k 0
        rw [List.getD_eq_getElem?_getD, List.getElem?_set_ne (by omega), List.getD_eq_getElem?_getD]
      rw [e1, hc k]
      have : (k < i + 1) = (k < i) := propext ⟨fun h => by omega, fun h => by omega⟩
      simp only [this]
  · have hco : co ls = co l1 + co l2 := by
      rw [← hsum]
      refine Ps.ext fun k => ?_
      rw [hc k, Ps.add_c]
      by_cases hk : k < i
      · rw [if_pos hk]
      · rw [if_neg hk, co_dg lb k (by omega)]
    simp only [List.getElem_cons_zero, List.getElem_cons_succ, and_true, true_and, decide_true, decide_false, Bool.not_true, Bool.not_false, lZ40, lZ37, lZ32, lZ12, lZ26, lZ39, lZ22, lZ1, lZ4, lZ6, lZ0, lZ2, lZ5, lZ83, lZ34, lZ27, I.at, atL, atO, atP, lZ20, lZ18, lZ97, lZ98, evp, evs, lZ10, ↓reduceIte, Nat.reduceEqDiff, reduceCtorEq, Value.bool.injEq, Bool.false_eq_true, Bool.true_eq_false, lZ8, lZ7, lZ68, lZ43, lZ91, lZ81, lZ93, lZ82, lZ96, lZ46, lZ21, lZ67, lZ64, lZ49, lZ52, lZ59, lZ66, lZ95, lZ56, lZ76, lZ57, lZ61, lZ79, lZ50, lZ42, lZ84, lZ55, lZ33, lZ75, lZ77, lZ73, lZ36, bff, btf, Option.isNone_some, Option.isNone_none, lZ9, lZ16, lZ3, retV, lZ44, lZ30, lZ25, lZ23, lZ14, List.getD_cons_zero, List.getD_cons_succ, t5, t17, t18, t19, show decide ((i : Int) < (lb.length : Int)) = false from decide_eq_false (by omega)]
    refine X_call0 ((polys_degree_w_spec w s' ls ho.sl (by omega)).mono ?_)
    rintro v w3 ⟨rfl, rfl⟩
    have hle := tln_le ls
    have e1 : IntKind.i64.wrap ((tln ls : Int) - 1 + 1) = (tln ls : Int) := by rw [wrap_id (by omega) (by omega)]; omega
    simp only [List.getElem_cons_zero, List.getElem_cons_succ, and_true, true_and, decide_true, decide_false, Bool.not_true, Bool.not_false, lZ40, lZ37, lZ32, lZ12, lZ26, lZ39, lZ22, lZ1, lZ4, lZ6, lZ0, lZ2, lZ5, lZ83, lZ34, lZ27, I.at, atL, atO, atP, lZ20, lZ18, lZ97, lZ98, evp, evs, lZ10, ↓reduceIte, Nat.reduceEqDiff, reduceCtorEq, Value.bool.injEq, Bool.false_eq_true, Bool.true_eq_false, lZ8, lZ7, lZ68, lZ43, lZ91, lZ81, lZ93, lZ82, lZ96, lZ46, lZ21, lZ67, lZ64, lZ49, lZ52, lZ59, lZ66, lZ95, lZ56, lZ76, lZ57, lZ61, lZ79, lZ50, lZ42, lZ84, lZ55, lZ33, lZ75, lZ77, lZ73, lZ36, bff, btf, Option.isNone_some, Option.isNone_none, lZ9, lZ16, lZ3, retV, lZ44, lZ30, lZ25, lZ23, lZ14, List.getD_cons_zero, List.getD_cons_succ, e1, ho.sl.XslcHi hle]
    refine ⟨_, ho.sub0 hle, ?_, ?_, ?_, hB⟩
    · exact tr_tr ls
    · rw [← hco]; exact tr_co ls
    · have := tr_len ls
      show (tr ls).length ≤ _
      omega
end Go.Proofs.Ytcdagkcchfibjaa.Fw

namespace Go.Proofs.Ytcdagkcchfibjaa.Fw
open Go Go.Fw
theorem polys_degree_b_spec (w : World) (s : Value) (l : List (El 8)) (h : Sl w s l) (hb : l.length ≤ 70368744175616) : CallV Try.prog 93 [s] w fun v w' => v = .int .i64 ((tln l : Int) - 1) ∧ w' = w := by
  refine run_polys_degree_b (by simp) ?_
  simp only [c_polys_degree_b, List.getElem_cons_zero, List.getElem_cons_succ, and_true, true_and, decide_true, decide_false, Bool.not_true, Bool.not_false, lZ40, lZ37, lZ32, lZ12, lZ26, lZ39, lZ22, lZ1, lZ4, lZ6, lZ0, lZ2, lZ5, lZ83, lZ34, lZ27, I.at, atL, atO, atP, lZ20, lZ18, lZ97, lZ98, evp, evs, lZ10, ↓reduceIte, Nat.reduceEqDiff, reduceCtorEq, Value.bool.injEq, Bool.false_eq_true, Bool.true_eq_false, lZ8, lZ7, lZ68, lZ43, lZ91, lZ81, lZ93, lZ82, lZ96, lZ46, lZ21, lZ67, lZ64, lZ49, lZ52, lZ59, lZ66, lZ95, lZ56, lZ76, lZ57, lZ61, lZ79, lZ50, lZ42, lZ84, lZ55, lZ33, lZ75, lZ77, lZ73, lZ36, bff, btf, Option.isNone_some, Option.isNone_none, lZ9, lZ16, lZ3, retV, lZ44, lZ30, lZ25, lZ23, lZ14, List.getD_cons_zero, List.getD_cons_succ, h.Xlen, wrap_id (show -9223372036854775808 ≤ (l.length : Int) - 1 by omega) (show (l.length : Int) - 1 < 9223372036854775808 by omega)]
  have hle := tln_le l
  refine loop_of (fun t w' => w' = w ∧ t 0 = s ∧ ∃ k : Nat, t 3 = .int .i64 ((k : Int) - 1) ∧ tln l ≤ k ∧ k ≤ l.length) (fun t _ => (toI (t 3) + 1).toNat) ⟨rfl, rfl, l.length, rfl, hle, Nat.le_refl _⟩ ?_
  rintro t w' ⟨rfl, h0, k, h3, hk1, hk2⟩
  rcases Nat.eq_zero_or_pos k with rfl | hp
  · have : tln l = 0 := by omega
    simp only [List.getElem_cons_zero, List.getElem_cons_succ, and_true, true_and, decide_true, decide_false, Bool.not_true, Bool.not_false, lZ40, lZ37, lZ32, lZ12, lZ26, lZ39, lZ22, lZ1, lZ4, lZ6, lZ0, lZ2, lZ5, lZ83, lZ34, lZ27, I.at, atL, atO, atP, lZ20, lZ18, lZ97, lZ98, evp, evs, lZ10, ↓reduceIte, Nat.reduceEqDiff, reduceCtorEq, Value.bool.injEq, Bool.false_eq_true, Bool.true_eq_false, lZ8, lZ7, lZ68, lZ43, lZ91, lZ81, lZ93, lZ82, lZ96, lZ46, lZ21, lZ67, lZ64, lZ49, lZ52, lZ59, lZ66, lZ95, lZ56, lZ76, lZ57, lZ61, lZ79, lZ50, lZ42, lZ84, lZ55, lZ33, lZ75, lZ77, lZ73, lZ36, bff, btf, Option.isNone_some, Option.isNone_none, lZ9, lZ16, lZ3, retV, lZ44, lZ30, lZ25, lZ23, lZ14, List.getD_cons_zero, List.getD_cons_succ, h0, h3, show decide ((0 : Int) ≤ ((0 : Nat) : Int) - 1) = false from rfl, this]
  · obtain ⟨k, rfl⟩ : ∃ j, k = j + 1 := ⟨k - 1, by omega⟩
    have e1 : ((k + 1 : Nat) : Int) - 1 = (k : Int) := by omega
    rw [e1] at h3
    have hkl : k < l.length := by omega
    by_cases hz : l[k] = 0
    · have d1 : decide (((l[k]).v.toNat : Int) = 0) = true := decide_eq_true ((el_zero _).mpr hz)
      simp only [List.getElem_cons_zero, List.getElem_cons_succ, and_true, true_and, decide_true, decide_false, Bool.not_true, Bool.not_false, lZ40, lZ37, lZ32, lZ12, lZ26, lZ39, lZ22, lZ1, lZ4, lZ6, lZ0, lZ2, lZ5, lZ83, lZ34, lZ27, I.at, atL, atO, atP, lZ20, lZ18, lZ97, lZ98, evp, evs, lZ10, ↓reduceIte, Nat.reduceEqDiff, reduceCtorEq, Value.bool.injEq, Bool.false_eq_true, Bool.true_eq_false, lZ8, lZ7, lZ68, lZ43, lZ91, lZ81, lZ93, lZ82, lZ96, lZ46, lZ21, lZ67, lZ64, lZ49, lZ52, lZ59, lZ66, lZ95, lZ56, lZ76, lZ57, lZ61, lZ79, lZ50, lZ42, lZ84, lZ55, lZ33, lZ75, lZ77, lZ73, lZ36, bff, btf, Option.isNone_some, Option.isNone_none, lZ9, lZ16, lZ3, retV, lZ44, lZ30, lZ25, lZ23, lZ14, List.getD_cons_zero, List.getD_cons_succ, h0, h3, show decide ((0 : Int) ≤ (k : Int)) = true by simp, h.Xix hkl, h.Xld hkl, cell_e8, d1, wrap_id (show -9223372036854775808 ≤ (k : Int) - 1 by omega) (show (k : Int) - 1 < 9223372036854775808 by omega), toI_int]
      refine ⟨⟨k, rfl, ?_, by omega⟩, by omega⟩
      rcases Nat.lt_or_ge k (tln l) with h1 | h1
      · exfalso
        refine tln_top l k (by omega) ?_
        rw [co_get l hkl]; exact hz
      · exact h1
    · have d1 : decide (((l[k]).v.toNat : Int) = 0) = false := decide_eq_false (fun e => hz ((el_zero _).mp e))
      have : tln l = k + 1 := by
        rcases Nat.lt_or_ge (tln l) (k + 1) with h1 | h1
        · exfalso
          have := tln_dg l k (by omega)
          rw [co_get l hkl] at this
          exact hz this
        · omega
      simp only [List.getElem_cons_zero, List.getElem_cons_succ, and_true, true_and, decide_true, decide_false, Bool.not_true, Bool.not_false, lZ40, lZ37, lZ32, lZ12, lZ26, lZ39, lZ22, lZ1, lZ4, lZ6, lZ0, lZ2, lZ5, lZ83, lZ34, lZ27, I.at, atL, atO, atP, lZ20, lZ18, lZ97, lZ98, evp, evs, lZ10, ↓reduceIte, Nat.reduceEqDiff, reduceCtorEq, Value.bool.injEq, Bool.false_eq_true, Bool.true_eq_false, lZ8, lZ7, lZ68, lZ43, lZ91, lZ81, lZ93, lZ82, lZ96, lZ46, lZ21, lZ67, lZ64, lZ49, lZ52, lZ59, lZ66, lZ95, lZ56, lZ76, lZ57, lZ61, lZ79, lZ50, lZ42, lZ84, lZ55, lZ33, lZ75, lZ77, lZ73, lZ36, bff, btf, Option.isNone_some, Option.isNone_none, lZ9, lZ16, lZ3, retV, lZ44, lZ30, lZ25, lZ23, lZ14, List.getD_cons_zero, List.getD_cons_succ, h0, h3, show decide ((0 : Int) ≤ (k : Int)) = true by simp, h.Xix hkl, h.Xld hkl, cell_e8, d1, this]
      simp only [List.getElem_cons_zero, List.getElem_cons_succ, and_true, true_and, decide_true, decide_false, Bool.not_true, Bool.not_false, lZ40, lZ37, lZ32, lZ12, lZ26, lZ39, lZ22, lZ1, lZ4, lZ6, lZ0, lZ2, lZ5, lZ83, lZ34, lZ27, I.at, atL, atO, atP, lZ20, lZ18, lZ97, lZ98, evp, evs, lZ10, ↓reduceIte, Nat.reduceEqDiff, reduceCtorEq, Value.bool.injEq, Bool.false_eq_true, Bool.true_eq_false, lZ8, lZ7, lZ68, lZ43, lZ91, lZ81, lZ93, lZ82, lZ96, lZ46, lZ21, lZ67, lZ64, lZ49, lZ52, lZ59, lZ66, lZ95, lZ56, lZ76, lZ57, lZ61, lZ79, lZ50, lZ42, lZ84, lZ55, lZ33, lZ75, lZ77, lZ73, lZ36, bff, btf, Option.isNone_some, Option.isNone_none, lZ9, lZ16, lZ3, retV, lZ44, lZ30, lZ25, lZ23, lZ14, List.getD_cons_zero, List.getD_cons_succ, e1]
theorem polys_copied_b_spec (w : World) (s : Value) (l : List (El 8)) (h : Sl w s l) (hb : l.length ≤ 70368744175616) :
    CallV Try.prog 85 [s] w fun v w' => Ow w.heap.size w' v (tr l) ∧ RowKit.Below w.heap.size w w' := by
  refine run_polys_copied_b (by simp) ?_
  have hle := tln_le l
  simp only [c_polys_copied_b, List.getElem_cons_zero, List.getElem_cons_succ, and_true, true_and, decide_true, decide_false, Bool.not_true, Bool.not_false, lZ40, lZ37, lZ32, lZ12, lZ26, lZ39, lZ22, lZ1, lZ4, lZ6, lZ0, lZ2, lZ5, lZ83, lZ34, lZ27, I.at, atL, atO, atP, lZ20, lZ18, lZ97, lZ98, evp, evs, lZ10, ↓reduceIte, Nat.reduceEqDiff, reduceCtorEq, Value.bool.injEq, Bool.false_eq_true, Bool.true_eq_false, lZ8, lZ7, lZ68, lZ43, lZ91, lZ81, lZ93, lZ82, lZ96, lZ46, lZ21, lZ67, lZ64, lZ49, lZ52, lZ59, lZ66, lZ95, lZ56, lZ76, lZ57, lZ61, lZ79, lZ50, lZ42, lZ84, lZ55, lZ33, lZ75, lZ77, lZ73, lZ36, bff, btf, Option.isNone_some, Option.isNone_none, lZ9, lZ16, lZ3, retV, lZ44, lZ30, lZ25, lZ23, lZ14, List.getD_cons_zero, List.getD_cons_succ]
  refine X_call0 ((polys_degree_b_spec w s l h hb).mono ?_)
  rintro v w' ⟨rfl, rfl⟩
  have e1 : IntKind.i64.wrap ((tln l : Int) - 1 + 1) = (tln l : Int) := by rw [wrap_id (by omega) (by omega)]; omega
  have hs := h.sub (show 0 ≤ tln l by omega) hle
  simp only [List.getElem_cons_zero, List.getElem_cons_succ, and_true, true_and, decide_true, decide_false, Bool.not_true, Bool.not_false, lZ40, lZ37, lZ32, lZ12, lZ26, lZ39, lZ22, lZ1, lZ4, lZ6, lZ0, lZ2, lZ5, lZ83, lZ34, lZ27, I.at, atL, atO, atP, lZ20, lZ18, lZ97, lZ98, evp, evs, lZ10, ↓reduceIte, Nat.reduceEqDiff, reduceCtorEq, Value.bool.injEq, Bool.false_eq_true, Bool.true_eq_false, lZ8, lZ7, lZ68, lZ43, lZ91, lZ81, lZ93, lZ82, lZ96, lZ46, lZ21, lZ67, lZ64, lZ49, lZ52, lZ59, lZ66, lZ95, lZ56, lZ76, lZ57, lZ61, lZ79, lZ50, lZ42, lZ84, lZ55, lZ33, lZ75, lZ77, lZ73, lZ36, bff, btf, Option.isNone_some, Option.isNone_none, lZ9, lZ16, lZ3, retV, lZ44, lZ30, lZ25, lZ23, lZ14, List.getD_cons_zero, List.getD_cons_succ, e1, h.XslcHi hle]
  refine Ow.Xapp (Ow.nil w'.heap.size w') hs (Nat.le_refl _) ?_ ?_ fun s' w2 ho hg _ => ?_
  · simp [maxBytes]; omega
  · simp; omega
  simp only [List.getElem_cons_zero, List.getElem_cons_succ, and_true, true_and, decide_true, decide_false, Bool.not_true, Bool.not_false, lZ40, lZ37, lZ32, lZ12, lZ26, lZ39, lZ22, lZ1, lZ4, lZ6, lZ0, lZ2, lZ5, lZ83, lZ34, lZ27, I.at, atL, atO, atP, lZ20, lZ18, lZ97, lZ98, evp, evs, lZ10, ↓reduceIte, Nat.reduceEqDiff, reduceCtorEq, Value.bool.injEq, Bool.false_eq_true, Bool.true_eq_false, lZ8, lZ7, lZ68, lZ43, lZ91, lZ81, lZ93, lZ82, lZ96, lZ46, lZ21, lZ67, lZ64, lZ49, lZ52, lZ59, lZ66, lZ95, lZ56, lZ76, lZ57, lZ61, lZ79, lZ50, lZ42, lZ84, lZ55, lZ33, lZ75, lZ77, lZ73, lZ36, bff, btf, Option.isNone_some, Option.isNone_none, lZ9, lZ16, lZ3, retV, lZ44, lZ30, lZ25, lZ23, lZ14, List.getD_cons_zero, List.getD_cons_succ]
  refine ⟨by simpa [tr] using ho, (RowKit.Below.refl _ _).grown hg (Nat.le_refl _) (fun b hb => by simp [Fw.blk, Value.ownBlock] at hb)⟩
theorem polys_added_b_spec (w : World) (s1 s2 : Value) (l1 l2 : List (El 8)) (h1 : Sl w s1 l1) (h2 : Sl w s2 l2) (hb1 : l1.length ≤ 70368744175616) (hb2 : l2.length ≤ 70368744175616) :
    CallV Try.prog 90 [s1, s2] w fun v w' => ∃ l, Ow w.heap.size w' v l ∧ tr l = l ∧ co l = co l1 + co l2 ∧ l.length ≤ max l1.length l2.length ∧ RowKit.Below w.heap.size w w' := by
  refine run_polys_added_b (by simp) ?_
  simp only [c_polys_added_b, List.getElem_cons_zero, List.getElem_cons_succ, and_true, true_and, decide_true, decide_false, Bool.not_true, Bool.not_false, lZ40, lZ37, lZ32, lZ12, lZ26, lZ39, lZ22, lZ1, lZ4, lZ6, lZ0, lZ2, lZ5, lZ83, lZ34, lZ27, I.at, atL, atO, atP, lZ20, lZ18, lZ97, lZ98, evp, evs, lZ10, ↓reduceIte, Nat.reduceEqDiff, reduceCtorEq, Value.bool.injEq, Bool.false_eq_true, Bool.true_eq_false, lZ8, lZ7, lZ68, lZ43, lZ91, lZ81, lZ93, lZ82, lZ96, lZ46, lZ21, lZ67, lZ64, lZ49, lZ52, lZ59, lZ66, lZ95, lZ56, lZ76, lZ57, lZ61, lZ79, lZ50, lZ42, lZ84, lZ55, lZ33, lZ75, lZ77, lZ73, lZ36, bff, btf, Option.isNone_some, Option.isNone_none, lZ9, lZ16, lZ3, retV, lZ44, lZ30, lZ25, lZ23, lZ14, List.getD_cons_zero, List.getD_cons_succ, h1.Xlen, h2.Xlen]
  refine iteW_cut (fun t w' => w' = w ∧ ∃ a b la lb, t 0 = a ∧ t 1 = b ∧ Sl w a la ∧ Sl w b lb ∧ lb.length ≤ la.length ∧ co la + co lb = co l1 + co l2 ∧ la.length ≤ max l1.length l2.length) ?_ ?_
  · by_cases hlt : l1.length < l2.length
    · simp only [List.getElem_cons_zero, List.getElem_cons_succ, and_true, true_and, decide_true, decide_false, Bool.not_true, Bool.not_false, lZ40, lZ37, lZ32, lZ12, lZ26, lZ39, lZ22, lZ1, lZ4, lZ6, lZ0, lZ2, lZ5, lZ83, lZ34, lZ27, I.at, atL, atO, atP, lZ20, lZ18, lZ97, lZ98, evp, evs, lZ10, ↓reduceIte, Nat.reduceEqDiff, reduceCtorEq, Value.bool.injEq, Bool.false_eq_true, Bool.true_eq_false, lZ8, lZ7, lZ68, lZ43, lZ91, lZ81, lZ93, lZ82, lZ96, lZ46, lZ21, lZ67, lZ64, lZ49, lZ52, lZ59, lZ66, lZ95, lZ56, lZ76, lZ57, lZ61, lZ79, lZ50, lZ42, lZ84, lZ55, lZ33, lZ75, lZ77, lZ73, lZ36, bff, btf, Option.isNone_some, Option.isNone_none, lZ9, lZ16, lZ3, retV, lZ44, lZ30, lZ25, lZ23, lZ14, List.getD_cons_zero, List.getD_cons_succ, show decide ((l1.length : Int) < (l2.length : Int)) = true from decide_eq_true (by omega)]
      exact ⟨_, _, _, _, rfl, rfl, h2, h1, by omega, Ps.add_comm _ _, by omega⟩
    · simp only [List.getElem_cons_zero, List.getElem_cons_succ, and_true, true_and, decide_true, decide_false, Bool.not_true, Bool.not_false, lZ40, lZ37, lZ32, lZ12, lZ26, lZ39, lZ22, lZ1, lZ4, lZ6, lZ0, lZ2, lZ5, lZ83, lZ34, lZ27, I.at, atL, atO, atP, lZ20, lZ18, lZ97, lZ98, evp, evs, lZ10, ↓reduceIte, Nat.reduceEqDiff, reduceCtorEq, Value.bool.injEq, Bool.false_eq_true, Bool.true_eq_false, lZ8, lZ7, lZ68, lZ43, lZ91, lZ81, lZ93, lZ82, lZ96, lZ46, lZ21, lZ67, lZ64, lZ49, lZ52, lZ59, lZ66, lZ95, lZ56, lZ76, lZ57, lZ61, lZ79, lZ50, lZ42, lZ84, lZ55, lZ33, lZ75, lZ77, lZ73, lZ36, bff, btf, Option.isNone_some, Option.isNone_none, lZ9, lZ16, lZ3, retV, lZ44, lZ30, lZ25, lZ23, lZ14, List.getD_cons_zero, List.getD_cons_succ, show decide ((l1.length : Int) < (l2.length : Int)) = false from decide_eq_false (by omega)]
      exact ⟨_, _, _, _, rfl, rfl, h1, h2, by omega, rfl, by omega⟩
  rintro t w' ⟨rfl, a, b, la, lb, ta, tb, ha, hb, hlen, hsum, hmax⟩
  simp only [List.getElem_cons_zero, List.getElem_cons_succ, and_true, true_and, decide_true, decide_false, Bool.not_true, Bool.not_false, lZ40, lZ37, lZ32, lZ12, lZ26, lZ39, lZ22, lZ1, lZ4, lZ6, lZ0, lZ2, lZ5, lZ83, lZ34, lZ27, I.at, atL, atO, atP, lZ20, lZ18, lZ97, lZ98, evp, evs, lZ10, ↓reduceIte, Nat.reduceEqDiff, reduceCtorEq, Value.bool.injEq, Bool.false_eq_true, Bool.true_eq_false, lZ8, lZ7, lZ68, lZ43, lZ91, lZ81, lZ93, lZ82, lZ96, lZ46, lZ21, lZ67, lZ64, lZ49, lZ52, lZ59, lZ66, lZ95, lZ56, lZ76, lZ57, lZ61, lZ79, lZ50, lZ42, lZ84, lZ55, lZ33, lZ75, lZ77, lZ73, lZ36, bff, btf, Option.isNone_some, Option.isNone_none, lZ9, lZ16, lZ3, retV, lZ44, lZ30, lZ25, lZ23, lZ14, List.getD_cons_zero, List.getD_cons_succ, ta, tb]
  refine Ow.Xapp (Ow.nil w'.heap.size w') ha (Nat.le_refl _) ?_ ?_ fun s' w2 ho hg _ => ?_
  · simp [maxBytes]; omega
  · simp; omega
  rw [List.nil_append] at ho
  have hB : RowKit.Below w'.heap.size w' w2 := (RowKit.Below.refl _ _).grown hg (Nat.le_refl _) (fun b hb => by simp [Fw.blk, Value.ownBlock] at hb)
  simp only [List.getElem_cons_zero, List.getElem_cons_succ, and_true, true_and, decide_true, decide_false, Bool.not_true, Bool.not_false, lZ40, lZ37, lZ32, lZ12, lZ26, lZ39, lZ22, lZ1, lZ4, lZ6, lZ0, lZ2, lZ5, lZ83, lZ34, lZ27, I.at, atL, atO, atP, lZ20, lZ18, lZ97, lZ98, evp, evs, lZ10, ↓reduceIte, Nat.reduceEqDiff, reduceCtorEq, Value.bool.injEq, Bool.false_eq_true, Bool.true_eq_false, lZ8, lZ7, lZ68, lZ43, lZ91, lZ81, lZ93, lZ82, lZ96, lZ46, lZ21, lZ67, lZ64, lZ49, lZ52, lZ59, lZ66, lZ95, lZ56, lZ76, lZ57, lZ61, lZ79, lZ50, lZ42, lZ84, lZ55, lZ33, lZ75, lZ77, lZ73, lZ36, bff, btf, Option.isNone_some, Option.isNone_none, lZ9, lZ16, lZ3, retV, lZ44, lZ30, lZ25, lZ23, lZ14, List.getD_cons_zero, List.getD_cons_succ, ta, tb, hb.Xlen]
  refine loop_of (fun t w => t 5 = s' ∧ t 17 = b ∧ t 18 = .int .i64 (lb.length : Int) ∧ RowKit.Below w'.heap.size w' w ∧ ∃ (i : Nat) (ls : List (El 8)), t 19 = .int .i64 (i : Int) ∧ i ≤ lb.length ∧ Ow w'.heap.size w s' ls ∧ ls.length = la.length ∧ ∀ k, (co ls).c k = (co la).c k + (if k < i then (co lb).c k else 0))
    (fun t _ => lb.length - (toI (t 19)).toNat) ⟨rfl, rfl, rfl, hB, 0, la, rfl, by omega, ho, rfl, fun k => (El.add_zero _).symm⟩ ?_
  rintro t w ⟨t5, t17, t18, hB, i, ls, t19, hi, ho, hll, hc⟩
  by_cases hlt : i < lb.length
  · have hb' := hb.up hB
    simp only [List.getElem_cons_zero, List.getElem_cons_succ, and_true, true_and, decide_true, decide_false, Bool.not_true, Bool.not_false, lZ40, lZ37, lZ32, lZ12, lZ26, lZ39, lZ22, lZ1, lZ4, lZ6, lZ0, lZ2, lZ5, lZ83, lZ34, lZ27, I.at, atL, atO, atP, lZ20, lZ18, lZ97, lZ98, evp, evs, lZ10, ↓reduceIte, Nat.reduceEqDiff, reduceCtorEq, Value.bool.injEq, Bool.false_eq_true, Bool.true_eq_false, lZ8, lZ7, lZ68, lZ43, lZ91, lZ81, lZ93, lZ82, lZ96, lZ46, lZ21, lZ67, lZ64, lZ49, lZ52, lZ59, lZ66, lZ95, lZ56, lZ76, lZ57, lZ61, lZ79, lZ50, lZ42, lZ84, lZ55, lZ33, lZ75, lZ77, lZ73, lZ36, bff, btf, Option.isNone_some, Option.isNone_none, lZ9, lZ16, lZ3, retV, lZ44, lZ30, lZ25, lZ23, lZ14, List.getD_cons_zero, List.getD_cons_succ, t5, t17, t18, t19, show decide ((i : Int) < (lb.length : Int)) = true from decide_eq_true (by omega), hb'.Xix hlt, hb'.Xld hlt, ho.sl.Xix (show i < ls.length by omega), ho.sl.Xld (show i < ls.length by omega), cell_e8, xor8]
    refine Ow.Xst ho (show i < ls.length by omega) (ls[i] + lb[i]) fun w3 ho3 hg3 => ?_
    simp only [List.getElem_cons_zero, List.getElem_cons_succ, and_true, true_and, decide_true, decide_false, Bool.not_true, Bool.not_false, lZ40, lZ37, lZ32, lZ12, lZ26, lZ39, lZ22, lZ1, lZ4, lZ6, lZ0, lZ2, lZ5, lZ83, lZ34, lZ27, I.at, atL, atO, atP, lZ20, lZ18, lZ97, lZ98, evp, evs, lZ10, ↓reduceIte, Nat.reduceEqDiff, reduceCtorEq, Value.bool.injEq, Bool.false_eq_true, Bool.true_eq_false, lZ8, lZ7, lZ68, lZ43, lZ91, lZ81, lZ93, lZ82, lZ96, lZ46, lZ21, lZ67, lZ64, lZ49, lZ52, lZ59, lZ66, lZ95, lZ56, lZ76, lZ57, lZ61, lZ79, lZ50, lZ42, lZ84, lZ55, lZ33, lZ75, lZ77, lZ73, lZ36, bff, btf, Option.isNone_some, Option.isNone_none, lZ9, lZ16, lZ3, retV, lZ44, lZ30, lZ25, lZ23, lZ14, List.getD_cons_zero, List.getD_cons_succ, t5, t17, t18, t19, wrap_id (show -9223372036854775808 ≤ (i : Int) + 1 by omega) (show (i : Int) + 1 < 9223372036854775808 by omega), toI_int]
    refine ⟨⟨hB.grown hg3 hB.size fun b hb => (ho.blk b hb).1, i + 1, _, rfl, by omega, ho3, by simp [hll], fun k => ?_⟩, by omega⟩
    by_cases hk : k = i
    · subst hk
      rw [co_get _ (by simp; omega), List.getElem_set_self, if_pos (by omega), co_get lb hlt]
      have := hc k
      rw [if_neg (by omega), El.add_zero, co_get ls (by omega)] at this
      rw [this]
    · have e1 : (co (ls.set i (ls[i] + lb[i]))).c k = (co ls).c k := by
        show (ls.set i _).getD k 0 = ls.getD k 0
        rw [List.getD_eq_getElem?_getD, List.getElem?_set_ne (by omega), List.getD_eq_getElem?_getD]
      rw [e1, hc k]
      have : (k < i + 1) = (k < i) := propext ⟨fun h => by omega, fun h => by omega⟩
      simp only [this]
  · have hco : co ls = co l1 + co l2 := by
      rw [← hsum]
      refine Ps.ext fun k => ?_
      rw [hc k, Ps.add_c]
      by_cases hk : k < i
      · rw [if_pos hk]
      · rw [if_neg hk, co_dg lb k (by omega)]
    simp only [List.getElem_cons_zero, List.getElem_cons_succ, and_true, true_and, decide_true, decide_false, Bool.not_true, Bool.not_false, lZ40, lZ37, lZ32, lZ12, lZ26, lZ39, lZ22, lZ1, lZ4, lZ6, lZ0, lZ2, lZ5, lZ83, lZ34, lZ27, I.at, atL, atO, atP, lZ20, lZ18, lZ97, lZ98, evp, evs, lZ10, ↓reduceIte, Nat.reduceEqDiff, reduceCtorEq, Value.bool.injEq, Bool.false_eq_true, Bool.true_eq_false, lZ8, lZ7, lZ68, lZ43, lZ91, lZ81, lZ93, lZ82, lZ96, lZ46, lZ21, lZ67, lZ64, lZ49, lZ52, lZ59, lZ66, lZ95, lZ56, lZ76, lZ57, lZ61, lZ79, lZ50, lZ42, lZ84, lZ55, lZ33, lZ75, lZ77, lZ73, lZ36, bff, btf, Option.isNone_some, Option.isNone_none, lZ9, lZ16, lZ3, retV, lZ44, lZ30, lZ25, lZ23, lZ14, List.getD_cons_zero, List.getD_cons_succ, t5, t17, t18, t19, show decide ((i : Int) < (lb.length : Int)) = false from decide_eq_false (by omega)]
    refine X_call0 ((polys_degree_b_spec w s' ls ho.sl (by omega)).mono ?_)
    rintro v w3 ⟨rfl, rfl⟩
    have hle := tln_le ls
    have e1 : IntKind.i64.wrap ((tln ls : Int) - 1 + 1) = (tln ls : Int) := by rw [wrap_id (by omega) (by omega)]; omega
    simp only [List.getElem_cons_zero, List.getElem_cons_succ, and_true, true_and, decide_true, decide_false, Bool.not_true, Bool.not_false, lZ40, lZ37, lZ32, lZ12, lZ26, lZ39, lZ22, lZ1, lZ4, lZ6, lZ0, lZ2, lZ5, lZ83, lZ34, lZ27, I.at, atL, atO, atP, lZ20, lZ18, lZ97, lZ98, evp, evs, lZ10, ↓reduceIte, Nat.reduceEqDiff, reduceCtorEq, Value.bool.injEq, Bool.false_eq_true, Bool.true_eq_false, lZ8, lZ7, lZ68, lZ43, lZ91, lZ81, lZ93, lZ82, lZ96, lZ46, lZ21, lZ67, lZ64, lZ49, lZ52, lZ59, lZ66, lZ95, lZ56, lZ76, lZ57, lZ61, lZ79, lZ50, lZ42, lZ84, lZ55, lZ33, lZ75, lZ77, lZ73, lZ36, bff, btf, Option.isNone_some, Option.isNone_none, lZ9, lZ16, lZ3, retV, lZ44, lZ30, lZ25, lZ23, lZ14, List.getD_cons_zero, List.getD_cons_succ, e1, ho.sl.XslcHi hle]
    refine ⟨_, ho.sub0 hle, ?_, ?_, ?_, hB⟩
    · exact tr_tr ls
    · rw [← hco]; exact tr_co ls
    · have := tr_len ls
      show (tr ls).length ≤ _
      omega
end Go.Proofs.Ytcdagkcchfibjaa.Fw
