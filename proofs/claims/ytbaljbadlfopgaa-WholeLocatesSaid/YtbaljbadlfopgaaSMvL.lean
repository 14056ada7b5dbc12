import Derived.Test.YtbaljbadlfopgaaProg
import Derived.Test.YtbaljbadlfopgaaFwTL
import Derived.Test.YtbaljbadlfopgaaSMgL
import Derived.Test.YtbaljbadlfopgaaFwVL
import Derived.Test.YtbaljbadlfopgaaGfML
import Derived.Test.YtbaljbadlfopgaaGfSL
set_option linter.all false
set_option linter.unusedVariables false
set_option linter.unusedSimpArgs false
set_option maxRecDepth 100000
set_option maxHeartbeats 1000000
namespace Go.Proofs.Ytbaljbadlfopgaa.Fw
open Go Go.Fw Go.Proofs
attribute [local irreducible] stepI
def c_polys_Ring_w_Eval : C := .seq (.ops [⟨0, (some 6), none, .mov (.c (.int .u16 0)), []⟩]) (.seq (.ops [⟨0, (some 7), none, .mov (.c (.int .u16 0)), []⟩]) (.seq (.seq (.ops [⟨0, (some 9), none, .mov (.t 0), []⟩, ⟨1, (some 10), none, .eqp false (.t 9) (.c (.pointer none)), []⟩]) (.ite (.t 10) (.seq (.ops [⟨0, (some 11), none, .mov (.t 7), []⟩, ⟨1, (some 6), none, .mov (.t 11), []⟩]) .ret) .skip)) (.seq (.seq (.ops [⟨0, (some 12), none, .mov (.t 1), []⟩, ⟨1, (some 13), none, .len (.t 12), []⟩, ⟨2, (some 14), none, .bin .sub (.t 13) (.c (.int .i64 1)), []⟩, ⟨3, (some 8), none, .mov (.t 14), []⟩]) (.block 0 (.loop (.seq (.seq (.ops [⟨0, (some 15), none, .mov (.t 8), []⟩, ⟨1, (some 16), none, .bin .geq (.t 15) (.c (.int .i64 0)), []⟩]) (.ite (.t 16) .skip (.exit 0))) (.seq (.block 1 (.dops [⟨0, (some 19), none, .mov (.t 0), []⟩, ⟨1, (some 20), none, .nil (.t 19), []⟩, ⟨2, (some 21), none, .fad 0 (.t 20), []⟩, ⟨3, (some 22), none, .ld (.t 21), []⟩, ⟨4, (some 23), none, .mov (.t 7), []⟩, ⟨5, (some 24), none, .mov (.t 2), []⟩, ⟨6, (some 25), none, .call (.t 22) [.t 23, .t 24], []⟩, ⟨7, (some 26), none, .mov (.t 1), []⟩, ⟨8, (some 27), none, .mov (.t 8), []⟩, ⟨9, (some 28), none, .ixs 1 (.t 26) (.t 27), []⟩, ⟨10, (some 29), none, .ld (.t 28), [6]⟩, ⟨11, (some 30), none, .bin .xor (.t 25) (.t 29), []⟩, ⟨12, (some 7), none, .mov (.t 30), []⟩])) (.ops [⟨0, (some 17), none, .mov (.t 8), []⟩, ⟨1, (some 18), none, .bin .sub (.t 17) (.c (.int .i64 1)), []⟩, ⟨2, (some 8), none, .mov (.t 18), []⟩])))))) (.seq (.ops [⟨0, (some 31), none, .mov (.t 7), []⟩, ⟨1, (some 6), none, .mov (.t 31), []⟩]) .ret))))
attribute [irreducible] c_polys_Ring_w_Eval
theorem run_polys_Ring_w_Eval {args : List Value} {w : World} {K : Value → World → Prop} (hn : args.length ≤ 32) (h : WP Try.prog c_polys_Ring_w_Eval (endQ [.t 6] K) (initT args) w) : CallV Try.prog 38 args w K :=
  call_of follows Try.func38 (by kernel_rfl) (by kernel_rfl) hn h
def c_polys_Ring_w_Vanishing : C := .seq (.ops [⟨0, (some 4), none, .mov (.c (.slice none 0 0)), []⟩, ⟨1, (some 5), none, .mov (.c (.int .i64 0)), []⟩]) (.seq (.seq (.ops [⟨0, (some 7), none, .mov (.t 0), []⟩, ⟨1, (some 8), none, .mov (.t 1), []⟩, ⟨2, (some 9), none, .bsl 70 1 [.slice none 0 0] [(0, (1, .t 8))], []⟩, ⟨3, (some 10), none, .call (.c (.func (.func 72) #[] #[])) [.t 7, .t 9], []⟩, ⟨4, (some 6), none, .mov (.t 10), []⟩]) (.seq (.ops [⟨0, (some 11), none, .mov (.t 6), []⟩, ⟨1, (some 12), none, .bin .neq (.t 11) (.c (.int .i64 0)), []⟩]) (.ite (.t 12) (.seq (.ops [⟨0, (some 13), none, .mov (.t 6), []⟩, ⟨1, (some 4), none, .mov (.c (.slice none 0 0)), []⟩, ⟨2, (some 5), none, .mov (.t 13), []⟩]) .ret) .skip))) (.seq (.ops [⟨0, (some 14), none, .mov (.t 0), []⟩, ⟨1, (some 15), none, .mov (.t 1), []⟩, ⟨2, (some 16), none, .call (.c (.func (.func 76) #[] #[])) [.t 14, .t 15], []⟩, ⟨3, (some 4), none, .mov (.t 16), []⟩, ⟨4, (some 5), none, .mov (.c (.int .i64 0)), []⟩]) .ret))
attribute [irreducible] c_polys_Ring_w_Vanishing
theorem run_polys_Ring_w_Vanishing {args : List Value} {w : World} {K : Value → World → Prop} (hn : args.length ≤ 17) (h : WP Try.prog c_polys_Ring_w_Vanishing (endQ [.t 4, .t 5] K) (initT args) w) : CallV Try.prog 42 args w K :=
  call_of follows Try.func42 (by kernel_rfl) (by kernel_rfl) hn h
def c_polys_Ring_w_Derivative : C := .seq (.ops [⟨0, (some 4), none, .mov (.c (.slice none 0 0)), []⟩]) (.seq (.seq (.ops [⟨0, (some 7), none, .mov (.t 0), []⟩, ⟨1, (some 8), none, .eqp false (.t 7) (.c (.pointer none)), []⟩, ⟨2, (some 9), none, .mov (.t 8), []⟩, ⟨3, (some 10), (some (9, false)), .mov (.t 1), []⟩, ⟨4, (some 11), (some (9, false)), .len (.t 10), []⟩, ⟨5, (some 12), (some (9, false)), .bin .lss (.t 11) (.c (.int .i64 2)), []⟩, ⟨6, (some 13), none, .pick (.t 9) (.c (.bool true)) (.t 12), []⟩]) (.ite (.t 13) (.seq (.ops [⟨0, (some 4), none, .mov (.c (.slice none 0 0)), []⟩]) .ret) .skip)) (.seq (.ops [⟨0, (some 14), none, .mov (.t 1), []⟩, ⟨1, (some 15), none, .len (.t 14), []⟩, ⟨2, (some 16), none, .bin .sub (.t 15) (.c (.int .i64 1)), []⟩, ⟨3, (some 17), none, .mks 73 2 [.int .u16 0] (.t 16) (.t 16), []⟩, ⟨4, (some 5), none, .mov (.t 17), []⟩]) (.seq (.seq (.ops [⟨0, (some 6), none, .mov (.c (.int .i64 0)), []⟩]) (.block 0 (.loop (.seq (.seq (.ops [⟨0, (some 18), none, .mov (.t 6), []⟩, ⟨1, (some 19), none, .mov (.t 5), []⟩, ⟨2, (some 20), none, .len (.t 19), []⟩, ⟨3, (some 21), none, .bin .lss (.t 18) (.t 20), []⟩]) (.ite (.t 21) .skip (.exit 0))) (.seq (.block 1 (.ops [⟨0, (some 24), none, .mov (.t 5), []⟩, ⟨1, (some 25), none, .mov (.t 6), []⟩, ⟨2, (some 26), none, .mov (.t 1), []⟩, ⟨3, (some 27), none, .mov (.t 6), []⟩, ⟨4, (some 28), none, .bin .add (.t 27) (.c (.int .i64 1)), []⟩, ⟨5, (some 29), none, .ixs 1 (.t 26) (.t 28), []⟩, ⟨6, (some 30), none, .ld (.t 29), []⟩, ⟨7, (some 31), none, .ixs 1 (.t 24) (.t 25), []⟩, ⟨8, none, none, .st (.t 31) (.t 30), []⟩])) (.ops [⟨0, (some 22), none, .mov (.t 6), []⟩, ⟨1, (some 23), none, .bin .add (.t 22) (.c (.int .i64 2)), []⟩, ⟨2, (some 6), none, .mov (.t 23), []⟩])))))) (.seq (.ops [⟨0, (some 32), none, .mov (.t 5), []⟩, ⟨1, (some 33), none, .call (.c (.func (.func 77) #[] #[])) [.t 32], []⟩, ⟨2, (some 4), none, .mov (.t 33), []⟩]) .ret))))
attribute [irreducible] c_polys_Ring_w_Derivative
theorem run_polys_Ring_w_Derivative {args : List Value} {w : World} {K : Value → World → Prop} (hn : args.length ≤ 34) (h : WP Try.prog c_polys_Ring_w_Derivative (endQ [.t 4] K) (initT args) w) : CallV Try.prog 43 args w K :=
  call_of follows Try.func43 (by kernel_rfl) (by kernel_rfl) hn h
def c_polys_Ring_w_refuses : C := .seq (.ops [⟨0, (some 4), none, .mov (.c (.int .i64 0)), []⟩]) (.seq (.seq (.ops [⟨0, (some 7), none, .mov (.t 0), []⟩, ⟨1, (some 8), none, .eqp false (.t 7) (.c (.pointer none)), []⟩]) (.ite (.t 8) (.seq (.ops [⟨0, (some 4), none, .mov (.c (.int .i64 1)), []⟩]) .ret) .skip)) (.seq (.seq (.ops [⟨0, (some 9), none, .mov (.t 1), []⟩, ⟨1, (some 10), none, .len (.t 9), []⟩, ⟨2, (some 11), none, .mov (.c (.int .i64 0)), []⟩]) (.block 0 (.loop (.seq (.ops [⟨0, (some 12), none, .bin .lss (.t 11) (.t 10), []⟩]) (.seq (.ite (.t 12) .skip (.exit 0)) (.seq (.block 1 (.seq (.ops [⟨0, (some 13), none, .ixs 1 (.t 9) (.t 11), []⟩, ⟨1, (some 14), none, .ld (.t 13), []⟩, ⟨2, (some 6), none, .mov (.t 14), []⟩]) (.seq (.ops [⟨0, (some 15), none, .mov (.t 6), []⟩, ⟨1, (some 16), none, .len (.t 15), []⟩, ⟨2, (some 17), none, .bin .gtr (.t 16) (.c (.int .i64 1024)), []⟩]) (.ite (.t 17) (.seq (.ops [⟨0, (some 4), none, .mov (.c (.int .i64 5)), []⟩]) .ret) .skip)))) (.ops [⟨0, (some 18), none, .bin .add (.t 11) (.c (.int .i64 1)), []⟩, ⟨1, (some 11), none, .mov (.t 18), []⟩]))))))) (.seq (.ops [⟨0, (some 4), none, .mov (.c (.int .i64 0)), []⟩]) .ret)))
attribute [irreducible] c_polys_Ring_w_refuses
theorem run_polys_Ring_w_refuses {args : List Value} {w : World} {K : Value → World → Prop} (hn : args.length ≤ 19) (h : WP Try.prog c_polys_Ring_w_refuses (endQ [.t 4] K) (initT args) w) : CallV Try.prog 72 args w K :=
  call_of follows Try.func72 (by kernel_rfl) (by kernel_rfl) hn h
def c_polys_Ring_w_vanishing : C := .seq (.ops [⟨0, (some 4), none, .mov (.c (.slice none 0 0)), []⟩]) (.seq (.ops [⟨0, (some 9), none, .bsl 73 1 [.int .u16 0] [(0, (1, .c (.int .u16 1)))], []⟩, ⟨1, (some 5), none, .mov (.t 9), []⟩]) (.seq (.seq (.ops [⟨0, (some 10), none, .mov (.t 1), []⟩, ⟨1, (some 11), none, .len (.t 10), []⟩, ⟨2, (some 12), none, .mov (.c (.int .i64 0)), []⟩]) (.block 0 (.loop (.seq (.ops [⟨0, (some 13), none, .bin .lss (.t 12) (.t 11), []⟩]) (.seq (.ite (.t 13) .skip (.exit 0)) (.seq (.block 1 (.seq (.ops [⟨0, (some 14), none, .ixs 1 (.t 10) (.t 12), []⟩, ⟨1, (some 15), none, .ld (.t 14), []⟩, ⟨2, (some 7), none, .mov (.t 15), []⟩]) (.seq (.ops [⟨0, (some 16), none, .mov (.t 5), []⟩, ⟨1, (some 17), none, .bsl 73 1 [.int .u16 0] [(0, (1, .c (.int .u16 0)))], []⟩, ⟨2, (some 18), none, .app 73 2 [.int .u16 0] (.t 16) (.t 17), []⟩, ⟨3, (some 5), none, .mov (.t 18), []⟩]) (.seq (.seq (.ops [⟨0, (some 19), none, .mov (.t 5), []⟩, ⟨1, (some 20), none, .len (.t 19), []⟩, ⟨2, (some 21), none, .bin .sub (.t 20) (.c (.int .i64 1)), []⟩, ⟨3, (some 8), none, .mov (.t 21), []⟩]) (.block 2 (.loop (.seq (.seq (.ops [⟨0, (some 22), none, .mov (.t 8), []⟩, ⟨1, (some 23), none, .bin .gtr (.t 22) (.c (.int .i64 0)), []⟩]) (.ite (.t 23) .skip (.exit 2))) (.seq (.block 3 (.dops [⟨0, (some 26), none, .mov (.t 5), []⟩, ⟨1, (some 27), none, .mov (.t 8), []⟩, ⟨2, (some 28), none, .mov (.t 5), []⟩, ⟨3, (some 29), none, .mov (.t 8), []⟩, ⟨4, (some 30), none, .bin .sub (.t 29) (.c (.int .i64 1)), []⟩, ⟨5, (some 31), none, .ixs 1 (.t 28) (.t 30), []⟩, ⟨6, (some 32), none, .ld (.t 31), []⟩, ⟨7, (some 33), none, .mov (.t 0), []⟩, ⟨8, (some 34), none, .nil (.t 33), []⟩, ⟨9, (some 35), none, .fad 0 (.t 34), []⟩, ⟨10, (some 36), none, .ld (.t 35), []⟩, ⟨11, (some 37), none, .mov (.t 5), []⟩, ⟨12, (some 38), none, .mov (.t 8), []⟩, ⟨13, (some 39), none, .ixs 1 (.t 37) (.t 38), []⟩, ⟨14, (some 40), none, .ld (.t 39), []⟩, ⟨15, (some 41), none, .mov (.t 7), []⟩, ⟨16, (some 42), none, .call (.t 36) [.t 40, .t 41], [6]⟩, ⟨17, (some 43), none, .bin .xor (.t 32) (.t 42), []⟩, ⟨18, (some 44), none, .ixs 1 (.t 26) (.t 27), []⟩, ⟨19, none, none, .st (.t 44) (.t 43), []⟩])) (.ops [⟨0, (some 24), none, .mov (.t 8), []⟩, ⟨1, (some 25), none, .bin .sub (.t 24) (.c (.int .i64 1)), []⟩, ⟨2, (some 8), none, .mov (.t 25), []⟩])))))) (.dops [⟨0, (some 45), none, .mov (.t 5), []⟩, ⟨1, (some 46), none, .mov (.t 0), []⟩, ⟨2, (some 47), none, .nil (.t 46), []⟩, ⟨3, (some 48), none, .fad 0 (.t 47), []⟩, ⟨4, (some 49), none, .ld (.t 48), []⟩, ⟨5, (some 50), none, .mov (.t 5), []⟩, ⟨6, (some 51), none, .ixs 1 (.t 50) (.c (.int .i64 0)), []⟩, ⟨7, (some 52), none, .ld (.t 51), []⟩, ⟨8, (some 53), none, .mov (.t 7), []⟩, ⟨9, (some 54), none, .call (.t 49) [.t 52, .t 53], []⟩, ⟨10, (some 55), none, .ixs 1 (.t 45) (.c (.int .i64 0)), []⟩, ⟨11, none, none, .st (.t 55) (.t 54), []⟩]))))) (.ops [⟨0, (some 56), none, .bin .add (.t 12) (.c (.int .i64 1)), []⟩, ⟨1, (some 12), none, .mov (.t 56), []⟩]))))))) (.seq (.ops [⟨0, (some 57), none, .mov (.t 5), []⟩, ⟨1, (some 4), none, .mov (.t 57), []⟩]) .ret)))
attribute [irreducible] c_polys_Ring_w_vanishing
theorem run_polys_Ring_w_vanishing {args : List Value} {w : World} {K : Value → World → Prop} (hn : args.length ≤ 58) (h : WP Try.prog c_polys_Ring_w_vanishing (endQ [.t 4] K) (initT args) w) : CallV Try.prog 76 args w K :=
  call_of follows Try.func76 (by kernel_rfl) (by kernel_rfl) hn h
def c_polys_copied_w : C := .seq (.ops [⟨0, (some 2), none, .mov (.c (.slice none 0 0)), []⟩]) (.seq (.ops [⟨0, (some 3), none, .mov (.t 0), []⟩, ⟨1, (some 4), none, .mov (.t 0), []⟩, ⟨2, (some 5), none, .call (.c (.func (.func 114) #[] #[])) [.t 4], []⟩, ⟨3, (some 6), none, .bin .add (.t 5) (.c (.int .i64 1)), []⟩, ⟨4, (some 7), none, .slc 1 (.t 3) none (some (.t 6)) none, []⟩, ⟨5, (some 8), none, .app 73 2 [.int .u16 0] (.c (.slice none 0 0)) (.t 7), []⟩, ⟨6, (some 2), none, .mov (.t 8), []⟩]) .ret)
attribute [irreducible] c_polys_copied_w
theorem run_polys_copied_w {args : List Value} {w : World} {K : Value → World → Prop} (hn : args.length ≤ 9) (h : WP Try.prog c_polys_copied_w (endQ [.t 2] K) (initT args) w) : CallV Try.prog 77 args w K :=
  call_of follows Try.func77 (by kernel_rfl) (by kernel_rfl) hn h
def c_polys_degree_w : C := .seq (.ops [⟨0, (some 2), none, .mov (.c (.int .i64 0)), []⟩]) (.seq (.ops [⟨0, (some 4), none, .mov (.t 0), []⟩, ⟨1, (some 5), none, .len (.t 4), []⟩, ⟨2, (some 6), none, .bin .sub (.t 5) (.c (.int .i64 1)), []⟩, ⟨3, (some 3), none, .mov (.t 6), []⟩]) (.seq (.block 0 (.loop (.seq (.seq (.ops [⟨0, (some 7), none, .mov (.t 3), []⟩, ⟨1, (some 8), none, .bin .geq (.t 7) (.c (.int .i64 0)), []⟩, ⟨2, (some 9), none, .mov (.t 8), []⟩, ⟨3, (some 10), (some (9, true)), .mov (.t 0), []⟩, ⟨4, (some 11), (some (9, true)), .mov (.t 3), []⟩, ⟨5, (some 12), (some (9, true)), .ixs 1 (.t 10) (.t 11), []⟩, ⟨6, (some 13), (some (9, true)), .ld (.t 12), []⟩, ⟨7, (some 14), (some (9, true)), .bin .eql (.t 13) (.c (.int .u16 0)), []⟩, ⟨8, (some 15), none, .pick (.t 9) (.t 14) (.c (.bool false)), []⟩]) (.ite (.t 15) .skip (.exit 0))) (.block 1 (.ops [⟨0, (some 16), none, .mov (.t 3), []⟩, ⟨1, (some 17), none, .bin .sub (.t 16) (.c (.int .i64 1)), []⟩, ⟨2, (some 3), none, .mov (.t 17), []⟩]))))) (.seq (.ops [⟨0, (some 18), none, .mov (.t 3), []⟩, ⟨1, (some 2), none, .mov (.t 18), []⟩]) .ret)))
attribute [irreducible] c_polys_degree_w
theorem run_polys_degree_w {args : List Value} {w : World} {K : Value → World → Prop} (hn : args.length ≤ 19) (h : WP Try.prog c_polys_degree_w (endQ [.t 2] K) (initT args) w) : CallV Try.prog 114 args w K :=
  call_of follows Try.func114 (by kernel_rfl) (by kernel_rfl) hn h
end Go.Proofs.Ytbaljbadlfopgaa.Fw
namespace Go.Proofs.Ytbaljbadlfopgaa.Fw
open Go Go.Fw
theorem polys_degree_w_spec (w : World) (s : Value) (l : List (El 16)) (h : Sl w s l) (hb : l.length ≤ 70368744175616) : CallV Try.prog 114 [s] w fun v w' => v = .int .i64 ((tln l : Int) - 1) ∧ w' = w := by
  refine run_polys_degree_w (by simp) ?_
  simp only [c_polys_degree_w, WS, List.getElem_cons_zero, List.getElem_cons_succ, Option.isNone_some, Option.isNone_none, List.getD_cons_zero, List.getD_cons_succ, I.at, atL, atO, atP, evp, evs, retV, ↓reduceIte, Nat.reduceEqDiff, reduceCtorEq, h.Xlen, wrap_id (show -9223372036854775808 ≤ (l.length : Int) - 1 by omega) (show (l.length : Int) - 1 < 9223372036854775808 by omega)]
  have hle := tln_le l
  refine loop_of (fun t w' => w' = w ∧ t 0 = s ∧ ∃ k : Nat, t 3 = .int .i64 ((k : Int) - 1) ∧ tln l ≤ k ∧ k ≤ l.length) (fun t _ => (toI (t 3) + 1).toNat) ⟨rfl, rfl, l.length, rfl, hle, Nat.le_refl _⟩ ?_
  rintro t w' ⟨rfl, h0, k, h3, hk1, hk2⟩
  rcases Nat.eq_zero_or_pos k with rfl | hp
  · have : tln l = 0 := by omega
    simp only [WS, List.getElem_cons_zero, List.getElem_cons_succ, Option.isNone_some, Option.isNone_none, List.getD_cons_zero, List.getD_cons_succ, I.at, atL, atO, atP, evp, evs, retV, ↓reduceIte, Nat.reduceEqDiff, reduceCtorEq, h0, h3, show decide ((0 : Int) ≤ ((0 : Nat) : Int) - 1) = false from rfl, this]
  · obtain ⟨k, rfl⟩ : ∃ j, k = j + 1 := ⟨k - 1, by omega⟩
    have e1 : ((k + 1 : Nat) : Int) - 1 = (k : Int) := by omega
    rw [e1] at h3
    have hkl : k < l.length := by omega
    by_cases hz : l[k] = 0
    · have d1 : decide (((l[k]).v.toNat : Int) = 0) = true := decide_eq_true ((el_zero _).mpr hz)
      simp only [WS, List.getElem_cons_zero, List.getElem_cons_succ, Option.isNone_some, Option.isNone_none, List.getD_cons_zero, List.getD_cons_succ, I.at, atL, atO, atP, evp, evs, retV, ↓reduceIte, Nat.reduceEqDiff, reduceCtorEq, h0, h3, show decide ((0 : Int) ≤ (k : Int)) = true by simp, h.Xix hkl, h.Xld hkl, cell_e16, d1, wrap_id (show -9223372036854775808 ≤ (k : Int) - 1 by omega) (show (k : Int) - 1 < 9223372036854775808 by omega), toI_int]
      refine ⟨⟨k, rfl, ?_, by omega⟩, by omega⟩
      rcases Nat.lt_or_ge k (tln l) with h1 | h1
      · exfalso
        refine tln_top l k (by omega) ?_
        rw [co_get l hkl]; exact hz
      · exact h1
    · have d1 : decide (((l[k]).v.toNat : Int) = 0) = false := decide_eq_false (fun e => hz ((el_zero _).mp e))
      have : tln l = k + 1 := by
        rcases Nat.lt_or_ge (tln l) (k + 1) with h1 | h1
        · exfalso
          have := tln_dg l k (by omega)
          rw [co_get l hkl] at this
          exact hz this
        · omega
      simp only [WS, List.getElem_cons_zero, List.getElem_cons_succ, Option.isNone_some, Option.isNone_none, List.getD_cons_zero, List.getD_cons_succ, I.at, atL, atO, atP, evp, evs, retV, ↓reduceIte, Nat.reduceEqDiff, reduceCtorEq, h0, h3, show decide ((0 : Int) ≤ (k : Int)) = true by simp, h.Xix hkl, h.Xld hkl, cell_e16, d1, this]
      simp only [WS, List.getElem_cons_zero, List.getElem_cons_succ, Option.isNone_some, Option.isNone_none, List.getD_cons_zero, List.getD_cons_succ, I.at, atL, atO, atP, evp, evs, retV, ↓reduceIte, Nat.reduceEqDiff, reduceCtorEq, e1]
theorem polys_copied_w_spec (w : World) (s : Value) (l : List (El 16)) (h : Sl w s l) (hb : l.length ≤ 70368744175616) :
    CallV Try.prog 77 [s] w fun v w' => Ow w.heap.size w' v (tr l) ∧ RowKit.Below w.heap.size w w' := by
  refine run_polys_copied_w (by simp) ?_
  have hle := tln_le l
  simp only [c_polys_copied_w, WS, List.getElem_cons_zero, List.getElem_cons_succ, Option.isNone_some, Option.isNone_none, List.getD_cons_zero, List.getD_cons_succ, I.at, atL, atO, atP, evp, evs, retV, ↓reduceIte, Nat.reduceEqDiff, reduceCtorEq]
  refine X_call0 ((polys_degree_w_spec w s l h hb).mono ?_)
  rintro v w' ⟨rfl, rfl⟩
  have e1 : IntKind.i64.wrap ((tln l : Int) - 1 + 1) = (tln l : Int) := by rw [wrap_id (by omega) (by omega)]; omega
  have hs := h.sub (show 0 ≤ tln l by omega) hle
  simp only [WS, List.getElem_cons_zero, List.getElem_cons_succ, Option.isNone_some, Option.isNone_none, List.getD_cons_zero, List.getD_cons_succ, I.at, atL, atO, atP, evp, evs, retV, ↓reduceIte, Nat.reduceEqDiff, reduceCtorEq, e1, h.XslcHi hle]
  refine Ow.Xapp (Ow.nil w'.heap.size w') hs (Nat.le_refl _) ?_ ?_ fun s' w2 ho hg _ => ?_
  · simp [maxBytes]; omega
  · simp; omega
  simp only [WS, List.getElem_cons_zero, List.getElem_cons_succ, Option.isNone_some, Option.isNone_none, List.getD_cons_zero, List.getD_cons_succ, I.at, atL, atO, atP, evp, evs, retV, ↓reduceIte, Nat.reduceEqDiff, reduceCtorEq]
  refine ⟨by simpa [tr] using ho, (RowKit.Below.refl _ _).grown hg (Nat.le_refl _) (fun b hb => by simp [Fw.blk, Value.ownBlock] at hb)⟩
end Go.Proofs.Ytbaljbadlfopgaa.Fw

namespace Go.Proofs.Ytbaljbadlfopgaa.Fw
open Go Go.Fw
end Go.Proofs.Ytbaljbadlfopgaa.Fw

namespace Go.Proofs.Ytbaljbadlfopgaa.Fw
open Go Go.Fw
theorem polys_Ring_w_refuses_spec (w : World) (a : Addr) (s : Value) (hs : List Hd) (h : Sl w s hs) (hb : hs.length ≤ 1000) (hn : ∀ x ∈ hs, x.n ≤ 140737488355328) :
    CallV Try.prog 72 [.pointer (some a), s] w fun v w' => v = .int .i64 (if ∀ x ∈ hs, x.n ≤ 1024 then 0 else 5) ∧ w' = w := by
  refine run_polys_Ring_w_refuses (by simp) ?_
  simp only [c_polys_Ring_w_refuses, WS, List.getElem_cons_zero, List.getElem_cons_succ, Option.isNone_some, Option.isNone_none, List.getD_cons_zero, List.getD_cons_succ, I.at, atL, atO, atP, evp, evs, retV, ↓reduceIte, Nat.reduceEqDiff, reduceCtorEq, h.Xlen]
  refine loop_of (fun t w' => w' = w ∧ t 9 = s ∧ t 10 = .int .i64 (hs.length : Int) ∧ ∃ i : Nat, t 11 = .int .i64 (i : Int) ∧ i ≤ hs.length ∧ ∀ x ∈ hs.take i, x.n ≤ 1024) (fun t _ => hs.length - (toI (t 11)).toNat) ⟨rfl, rfl, rfl, 0, rfl, by omega, by simp⟩ ?_
  rintro t w' ⟨rfl, t9, t10, i, t11, hi, hall⟩
  by_cases hlt : i < hs.length
  · simp only [WS, List.getElem_cons_zero, List.getElem_cons_succ, Option.isNone_some, Option.isNone_none, List.getD_cons_zero, List.getD_cons_succ, I.at, atL, atO, atP, evp, evs, retV, ↓reduceIte, Nat.reduceEqDiff, reduceCtorEq, t9, t10, t11, show decide ((i : Int) < (hs.length : Int)) = true from decide_eq_true (by omega), h.Xix hlt, h.Xld hlt, cell_hd, X_lenS]
    by_cases hx : hs[i].n ≤ 1024
    · simp only [WS, List.getElem_cons_zero, List.getElem_cons_succ, Option.isNone_some, Option.isNone_none, List.getD_cons_zero, List.getD_cons_succ, I.at, atL, atO, atP, evp, evs, retV, ↓reduceIte, Nat.reduceEqDiff, reduceCtorEq, t9, t10, t11, show decide ((1024 : Int) < (hs[i].n : Int)) = false from decide_eq_false (by omega), wrap_id (show -9223372036854775808 ≤ (i : Int) + 1 by omega) (show (i : Int) + 1 < 9223372036854775808 by omega), toI_int]
      refine ⟨⟨i + 1, rfl, by omega, fun x hxm => ?_⟩, by omega⟩
      rw [List.take_add_one, List.getElem?_eq_getElem hlt] at hxm
      rcases List.mem_append.1 hxm with h1 | h1
      · exact hall x h1
      · simp at h1; subst h1; exact hx
    · have : ¬ ∀ x ∈ hs, x.n ≤ 1024 := fun h => hx (h _ (List.getElem_mem hlt))
      simp only [WS, List.getElem_cons_zero, List.getElem_cons_succ, Option.isNone_some, Option.isNone_none, List.getD_cons_zero, List.getD_cons_succ, I.at, atL, atO, atP, evp, evs, retV, ↓reduceIte, Nat.reduceEqDiff, reduceCtorEq, t9, t10, t11, show decide ((1024 : Int) < (hs[i].n : Int)) = true from decide_eq_true (by omega), if_neg this]
  · have : ∀ x ∈ hs, x.n ≤ 1024 := by
      rw [List.take_of_length_le (by omega)] at hall; exact hall
    simp only [WS, List.getElem_cons_zero, List.getElem_cons_succ, Option.isNone_some, Option.isNone_none, List.getD_cons_zero, List.getD_cons_succ, I.at, atL, atO, atP, evp, evs, retV, ↓reduceIte, Nat.reduceEqDiff, reduceCtorEq, t9, t10, t11, show decide ((i : Int) < (hs.length : Int)) = false from decide_eq_false (by omega), if_pos this]
theorem polys_Ring_w_Derivative_spec (w : World) (r s : Value) (l : List (El 16)) (hr : Ring_w w r) (h : Sl w s l) (hb : l.length ≤ 70368744175616) :
    CallV Try.prog 43 [r, s] w fun v w' => ∃ m, Ow w.heap.size w' v m ∧ tr m = m ∧ co m = (co l).D ∧ m.length ≤ l.length ∧ RowKit.Below w.heap.size w w' := by
  obtain ⟨b, mv, iv, rfl, -, -⟩ := hr
  refine run_polys_Ring_w_Derivative (by simp) ?_
  simp only [c_polys_Ring_w_Derivative, WS, List.getElem_cons_zero, List.getElem_cons_succ, Option.isNone_some, Option.isNone_none, List.getD_cons_zero, List.getD_cons_succ, I.at, atL, atO, atP, evp, evs, retV, ↓reduceIte, Nat.reduceEqDiff, reduceCtorEq, h.Xlen]
  by_cases h2 : l.length < 2
  · simp only [WS, List.getElem_cons_zero, List.getElem_cons_succ, Option.isNone_some, Option.isNone_none, List.getD_cons_zero, List.getD_cons_succ, I.at, atL, atO, atP, evp, evs, retV, ↓reduceIte, Nat.reduceEqDiff, reduceCtorEq, show decide ((l.length : Int) < 2) = true from decide_eq_true (by omega)]
    refine ⟨[], Ow.nil _ _, rfl, ?_, by simp, RowKit.Below.refl _ _⟩
    refine Ps.ext fun k => ?_
    show 0 = if k % 2 = 0 then (co l).c (k + 1) else 0
    split
    · exact (co_dg l (k + 1) (by omega)).symm
    · rfl
  · have e1 : IntKind.i64.wrap ((l.length : Int) - 1) = ((l.length - 1 : Nat) : Int) := by rw [wrap_id (by omega) (by omega)]; omega
    simp only [WS, List.getElem_cons_zero, List.getElem_cons_succ, Option.isNone_some, Option.isNone_none, List.getD_cons_zero, List.getD_cons_succ, I.at, atL, atO, atP, evp, evs, retV, ↓reduceIte, Nat.reduceEqDiff, reduceCtorEq, show decide ((l.length : Int) < 2) = false from decide_eq_false (by omega), h.Xlen, e1]
    refine X_mks (x := (0 : El 16)) ?_ ?_ fun p w1 ho hB => ?_
    · simp only [maxBytes]; omega
    · omega
    simp only [WS, List.getElem_cons_zero, List.getElem_cons_succ, Option.isNone_some, Option.isNone_none, List.getD_cons_zero, List.getD_cons_succ, I.at, atL, atO, atP, evp, evs, retV, ↓reduceIte, Nat.reduceEqDiff, reduceCtorEq]
    refine loop_of (fun t w' => t 1 = s ∧ t 5 = p ∧ RowKit.Below w.heap.size w w' ∧ ∃ (i : Nat) (ls : List (El 16)), t 6 = .int .i64 (i : Int) ∧ i % 2 = 0 ∧ i ≤ l.length ∧ Ow w.heap.size w' p ls ∧ ls.length = l.length - 1 ∧ ∀ k, (co ls).c k = if k % 2 = 0 ∧ k < i then (co l).c (k + 1) else 0)
      (fun t _ => l.length + 1 - (toI (t 6)).toNat) ⟨rfl, rfl, hB, 0, _, rfl, rfl, by omega, ho, by simp, fun k => by rw [co_replicate, if_neg (by omega)]; rfl⟩ ?_
    clear ho hB
    rintro t w' ⟨t1, t5, hB, i, ls, t6, hev, hi, ho, hll, hc⟩
    have h' := h.up hB
    by_cases hlt : i < l.length - 1
    · have wi : IntKind.i64.wrap ((i : Int) + 1) = ((i + 1 : Nat) : Int) := by rw [wrap_id (by omega) (by omega)]; omega
      have wi2 : IntKind.i64.wrap ((i : Int) + 2) = ((i + 2 : Nat) : Int) := by rw [wrap_id (by omega) (by omega)]; omega
      simp only [WS, List.getElem_cons_zero, List.getElem_cons_succ, Option.isNone_some, Option.isNone_none, List.getD_cons_zero, List.getD_cons_succ, I.at, atL, atO, atP, evp, evs, retV, ↓reduceIte, Nat.reduceEqDiff, reduceCtorEq, t1, t5, t6, ho.sl.Xlen, hll, show decide ((i : Int) < ((l.length - 1 : Nat) : Int)) = true from decide_eq_true (by omega), wi, h'.Xix (show i + 1 < l.length by omega), h'.Xld (show i + 1 < l.length by omega), ho.sl.Xix (show i < ls.length by omega)]
      refine Ow.Xst ho (show i < ls.length by omega) l[i + 1] fun w3 ho3 hg3 => ?_
      simp only [WS, List.getElem_cons_zero, List.getElem_cons_succ, Option.isNone_some, Option.isNone_none, List.getD_cons_zero, List.getD_cons_succ, I.at, atL, atO, atP, evp, evs, retV, ↓reduceIte, Nat.reduceEqDiff, reduceCtorEq, t1, t5, t6, wi2, toI_int]
      refine ⟨⟨hB.grown hg3 hB.size fun b hb => (ho.blk b hb).1, i + 2, _, rfl, by omega, by omega, ho3, by simp [hll], fun k => ?_⟩, by omega⟩
      rw [co_set _ (by omega), hc k]
      by_cases hk : k = i
      · subst hk
        rw [if_pos rfl, if_pos ⟨hev, by omega⟩, co_get l (by omega)]
      · rw [if_neg hk]
        by_cases hk2 : k % 2 = 0 ∧ k < i
        · rw [if_pos hk2, if_pos ⟨hk2.1, by omega⟩]
        · rw [if_neg hk2, if_neg (by omega)]
    · simp only [WS, List.getElem_cons_zero, List.getElem_cons_succ, Option.isNone_some, Option.isNone_none, List.getD_cons_zero, List.getD_cons_succ, I.at, atL, atO, atP, evp, evs, retV, ↓reduceIte, Nat.reduceEqDiff, reduceCtorEq, t1, t5, t6, ho.sl.Xlen, hll, show decide ((i : Int) < ((l.length - 1 : Nat) : Int)) = false from decide_eq_false (by omega)]
      refine X_call0 ((polys_copied_w_spec w' p ls ho.sl (by omega)).mono ?_)
      rintro v2 w2 ⟨ho2, hB2⟩
      simp only [WS, List.getElem_cons_zero, List.getElem_cons_succ, Option.isNone_some, Option.isNone_none, List.getD_cons_zero, List.getD_cons_succ, I.at, atL, atO, atP, evp, evs, retV, ↓reduceIte, Nat.reduceEqDiff, reduceCtorEq]
      refine ⟨_, ho2.mono hB.size, tr_tr ls, ?_, ?_, hB.trans (hB2.mono hB.size)⟩
      · rw [tr_co]
        refine Ps.ext fun k => ?_
        rw [hc k]
        show _ = if k % 2 = 0 then (co l).c (k + 1) else 0
        by_cases hk : k % 2 = 0
        · by_cases hki : k < i
          · rw [if_pos ⟨hk, hki⟩, if_pos hk]
          · rw [if_neg (by omega), if_pos hk, co_dg l (k + 1) (by omega)]
        · rw [if_neg (by omega), if_neg hk]
      · have := tln_le ls
        rw [tr_len]; omega
theorem polys_Ring_w_Eval_spec (w : World) (r s : Value) (l : List (El 16)) (x : El 16) (hr : Ring_w w r) (h : Sl w s l) (hb : l.length ≤ 70368744175616) :
    CallV Try.prog 38 [r, s, .int .u16 (x.v.toNat : Int)] w fun v w' => v = .int .u16 ((evl l x).v.toNat : Int) ∧ RowKit.Below w.heap.size w w' := by
  obtain ⟨b, mv, iv, rfl, hrow, hm, hiv⟩ := hr
  refine run_polys_Ring_w_Eval (by simp) ?_
  simp only [c_polys_Ring_w_Eval, WS, List.getElem_cons_zero, List.getElem_cons_succ, Option.isNone_some, Option.isNone_none, List.getD_cons_zero, List.getD_cons_succ, I.at, atL, atO, atP, evp, evs, retV, ↓reduceIte, Nat.reduceEqDiff, reduceCtorEq, h.Xlen, wrap_id (show -9223372036854775808 ≤ (l.length : Int) - 1 by omega) (show (l.length : Int) - 1 < 9223372036854775808 by omega)]
  refine loop_of (fun t w' => t 0 = .pointer (some ⟨b, 0, none⟩) ∧ t 1 = s ∧ t 2 = .int .u16 (x.v.toNat : Int) ∧ RowKit.Below w.heap.size w w' ∧ ∃ k : Nat, t 8 = .int .i64 ((k : Int) - 1) ∧ k ≤ l.length ∧ t 7 = .int .u16 ((evl (l.drop k) x).v.toNat : Int)) (fun t _ => (toI (t 8) + 1).toNat)
    ⟨rfl, rfl, rfl, RowKit.Below.refl _ _, l.length, rfl, Nat.le_refl _, by rw [List.drop_length]; rfl⟩ ?_
  rintro t w' ⟨t0, t1, t2, hB, k, t8, hk, t7⟩
  rcases Nat.eq_zero_or_pos k with rfl | hp
  · rw [List.drop_zero] at t7
    simp only [WS, List.getElem_cons_zero, List.getElem_cons_succ, Option.isNone_some, Option.isNone_none, List.getD_cons_zero, List.getD_cons_succ, I.at, atL, atO, atP, evp, evs, retV, ↓reduceIte, Nat.reduceEqDiff, reduceCtorEq, t0, t1, t2, t7, t8, show decide ((0 : Int) ≤ ((0 : Nat) : Int) - 1) = false from rfl]
    exact hB
  · obtain ⟨k, rfl⟩ : ∃ j, k = j + 1 := ⟨k - 1, by omega⟩
    have e1 : ((k + 1 : Nat) : Int) - 1 = (k : Int) := by omega
    rw [e1] at t8
    have hkl : k < l.length := by omega
    obtain ⟨b', mv', iv', hbe, hrow', hm', -⟩ := (show Ring_w w (.pointer (some ⟨b, 0, none⟩)) from ⟨b, mv, iv, rfl, hrow, hm, hiv⟩).up hB
    cases hbe
    have hos := (h.up hB).drew
    simp only [WS, List.getElem_cons_zero, List.getElem_cons_succ, Option.isNone_some, Option.isNone_none, List.getD_cons_zero, List.getD_cons_succ, I.at, atL, atO, atP, evp, evs, retV, ↓reduceIte, Nat.reduceEqDiff, reduceCtorEq, t0, t1, t2, t7, t8, show decide ((0 : Int) ≤ (k : Int)) = true by simp]
    refine WP_dops ?_
    simp only [ES, List.mem_cons, List.not_mem_nil, implies_true, forall_const, WS, List.getElem_cons_zero, List.getElem_cons_succ, Option.isNone_some, Option.isNone_none, List.getD_cons_zero, List.getD_cons_succ, I.at, atL, atO, atP, evp, evs, retV, ↓reduceIte, Nat.reduceEqDiff, reduceCtorEq, t0, t1, t2, t7, t8, addr_add0, Nat.add_zero, hrow'.drew.Eld (show 0 < [mv', iv'].length by simp)]
    refine E_callK (Mul_w.call (w := w'.drew) hm' _ _ fun w4 hl => ?_)
    have hos4 := hl.sl hos
    have hsee := hos.sees hkl Try.prog
    rw [cell_e16] at hsee
    simp only [ES, List.mem_cons, List.not_mem_nil, implies_true, forall_const, WS, List.getElem_cons_zero, List.getElem_cons_succ, Option.isNone_some, Option.isNone_none, List.getD_cons_zero, List.getD_cons_succ, I.at, atL, atO, atP, evp, evs, retV, ↓reduceIte, Nat.reduceEqDiff, reduceCtorEq, t0, t1, t2, t7, t8, hos4.Eix hkl, hos4.Eld hkl, cell_e16, hsee, xor16, wrap_id (show -9223372036854775808 ≤ (k : Int) - 1 by omega) (show (k : Int) - 1 < 9223372036854775808 by omega), toI_int]
    refine ⟨⟨hl.bel (hB.trans ((bel_drew w').mono hB.size)) hB.size, k, rfl, by omega, ?_⟩, by omega⟩
    rw [evl_drop x l hkl, El.add_comm, El.mul_comm x]
end Go.Proofs.Ytbaljbadlfopgaa.Fw

namespace Go.Proofs.Ytbaljbadlfopgaa.Fw
open Go Go.Fw
theorem polys_Ring_w_vanishing_spec (w : World) (r s : Value) (l : List (El 16)) (hr : Ring_w w r) (h : Sl w s l) (hb : l.length ≤ 1048576) :
    CallV Try.prog 76 [r, s] w fun v w' => ∃ m, Ow w.heap.size w' v m ∧ m.length = l.length + 1 ∧ co m = vps l ∧ RowKit.Below w.heap.size w w' := by
  obtain ⟨b, mv, iv, rfl, -, -, -⟩ := id hr
  refine run_polys_Ring_w_vanishing (by simp) ?_
  simp only [c_polys_Ring_w_vanishing, WS, List.getElem_cons_zero, List.getElem_cons_succ, Option.isNone_some, Option.isNone_none, List.getD_cons_zero, List.getD_cons_succ, I.at, atL, atO, atP, evp, evs, retV, ↓reduceIte, Nat.reduceEqDiff, reduceCtorEq]
  refine X_bsl (zs := [(1 : El 16)]) rfl rfl fun p w1 ho hB => ?_
  simp only [WS, List.getElem_cons_zero, List.getElem_cons_succ, Option.isNone_some, Option.isNone_none, List.getD_cons_zero, List.getD_cons_succ, I.at, atL, atO, atP, evp, evs, retV, ↓reduceIte, Nat.reduceEqDiff, reduceCtorEq, h.Xlen]
  refine loop_of (fun t w' => t 0 = .pointer (some ⟨b, 0, none⟩) ∧ t 10 = s ∧ t 11 = .int .i64 (l.length : Int) ∧ RowKit.Below w.heap.size w w' ∧ ∃ (i : Nat) (p : Value) (ls : List (El 16)), t 12 = .int .i64 (i : Int) ∧ i ≤ l.length ∧ t 5 = p ∧ Ow w.heap.size w' p ls ∧ ls.length = i + 1 ∧ co ls = vps (l.take i))
    (fun t _ => l.length - (toI (t 12)).toNat) ⟨rfl, rfl, rfl, hB, 0, p, _, rfl, by omega, rfl, ho, rfl, by
      rw [List.take_zero]
      refine Ps.ext fun k => ?_
      cases k <;> rfl⟩ ?_
  clear ho hB p w1
  rintro t w1 ⟨t0, t10, t11, hB, i, p, ls, t12, hi, t5, ho, hll, hc⟩
  by_cases hlt : i < l.length
  · have wi : IntKind.i64.wrap ((i : Int) + 1) = ((i + 1 : Nat) : Int) := by rw [wrap_id (by omega) (by omega)]; omega
    simp only [WS, List.getElem_cons_zero, List.getElem_cons_succ, Option.isNone_some, Option.isNone_none, List.getD_cons_zero, List.getD_cons_succ, I.at, atL, atO, atP, evp, evs, retV, ↓reduceIte, Nat.reduceEqDiff, reduceCtorEq, t0, t5, t10, t11, t12, show decide ((i : Int) < (l.length : Int)) = true from decide_eq_true (by omega), (h.up hB).Xix hlt, (h.up hB).Xld hlt, cell_e16]
    refine X_bsl (zs := [(0 : El 16)]) rfl rfl fun z w2 hoz hB2 => ?_
    simp only [WS, List.getElem_cons_zero, List.getElem_cons_succ, Option.isNone_some, Option.isNone_none, List.getD_cons_zero, List.getD_cons_succ, I.at, atL, atO, atP, evp, evs, retV, ↓reduceIte, Nat.reduceEqDiff, reduceCtorEq, t0, t5, t10, t11, t12]
    refine Ow.Xapp (ho.up hB2) hoz.sl (by have := hB.size; have := hB2.size; omega) ?_ ?_ fun q w3 hoq hg hnear => ?_
    · simp only [maxBytes, List.length_singleton]; omega
    · simp only [List.length_singleton]; omega
    have hB3 : RowKit.Below w.heap.size w w3 := (hB.trans (hB2.mono hB.size)).grown hg (Nat.le_trans hB.size hB2.size) fun b hb => (ho.blk b hb).1
    have hql : (ls ++ [(0 : El 16)]).length = i + 2 := by simp [hll]
    have e1 : IntKind.i64.wrap (((i + 2 : Nat) : Int) - 1) = ((i + 1 : Nat) : Int) := by rw [wrap_id (by omega) (by omega)]; omega
    simp only [WS, List.getElem_cons_zero, List.getElem_cons_succ, Option.isNone_some, Option.isNone_none, List.getD_cons_zero, List.getD_cons_succ, I.at, atL, atO, atP, evp, evs, retV, ↓reduceIte, Nat.reduceEqDiff, reduceCtorEq, t0, t10, t11, t12, hoq.sl.Xlen, hql, e1]
    refine loop_of (fun t w' => t 0 = .pointer (some ⟨b, 0, none⟩) ∧ t 5 = q ∧ t 7 = .int .u16 ((l[i]).v.toNat : Int) ∧ t 10 = s ∧ t 11 = .int .i64 (l.length : Int) ∧ t 12 = .int .i64 (i : Int) ∧ RowKit.Below w.heap.size w w' ∧
        ∃ (j : Nat) (ms : List (El 16)), t 8 = .int .i64 (j : Int) ∧ j ≤ i + 1 ∧ Ow w.heap.size w' q ms ∧ ms.length = i + 2 ∧ ∀ k, (co ms).c k = if k ≤ j then (co ls).c k else (lin l[i] * co ls).c k)
      (fun t _ => (toI (t 8)).toNat) ⟨by simp only [WS, List.getElem_cons_zero, List.getElem_cons_succ, Option.isNone_some, Option.isNone_none, List.getD_cons_zero, List.getD_cons_succ, I.at, atL, atO, atP, evp, evs, retV, ↓reduceIte, Nat.reduceEqDiff, reduceCtorEq, t0], rfl, rfl, by simp only [WS, List.getElem_cons_zero, List.getElem_cons_succ, Option.isNone_some, Option.isNone_none, List.getD_cons_zero, List.getD_cons_succ, I.at, atL, atO, atP, evp, evs, retV, ↓reduceIte, Nat.reduceEqDiff, reduceCtorEq, t10], by simp only [WS, List.getElem_cons_zero, List.getElem_cons_succ, Option.isNone_some, Option.isNone_none, List.getD_cons_zero, List.getD_cons_succ, I.at, atL, atO, atP, evp, evs, retV, ↓reduceIte, Nat.reduceEqDiff, reduceCtorEq, t11], by simp only [WS, List.getElem_cons_zero, List.getElem_cons_succ, Option.isNone_some, Option.isNone_none, List.getD_cons_zero, List.getD_cons_succ, I.at, atL, atO, atP, evp, evs, retV, ↓reduceIte, Nat.reduceEqDiff, reduceCtorEq, t12], hB3, i + 1, _, rfl, Nat.le_refl _, hoq, hql, fun k => by
        have e : co (ls ++ [(0 : El 16)]) = co ls := co_append_zeros ls 1
        rw [e]
        by_cases hk : k ≤ i + 1
        · rw [if_pos hk]
        · rw [if_neg hk, co_dg ls k (by omega), lin_mul, co_dg ls k (by omega), El.mul_zero, if_neg (by omega), co_dg ls (k - 1) (by omega), El.add_zero]⟩ ?_
    clear hoq hg hnear hB3 hB2 hoz
    rintro t w4 ⟨t0, t5, t7, t10, t11, t12, hB4, j, ms, t8, hj, hom, hml, hmc⟩
    obtain ⟨b', mv', iv', hbe, hrow', hm', -⟩ := hr.up hB4
    cases hbe
    have hos := hom.sl.drew
    rcases Nat.eq_zero_or_pos j with rfl | hp
    · have h0 : 0 < ms.length := by omega
      simp only [WS, List.getElem_cons_zero, List.getElem_cons_succ, Option.isNone_some, Option.isNone_none, List.getD_cons_zero, List.getD_cons_succ, I.at, atL, atO, atP, evp, evs, retV, ↓reduceIte, Nat.reduceEqDiff, reduceCtorEq, t0, t5, t7, t8, t10, t11, t12, show decide ((0 : Int) < ((0 : Nat) : Int)) = false from rfl]
      refine WP_dops ?_
      simp only [ES, List.mem_cons, List.not_mem_nil, implies_true, forall_const, WS, List.getElem_cons_zero, List.getElem_cons_succ, Option.isNone_some, Option.isNone_none, List.getD_cons_zero, List.getD_cons_succ, I.at, atL, atO, atP, evp, evs, retV, ↓reduceIte, Nat.reduceEqDiff, reduceCtorEq, t0, t5, t7, t8, addr_add0, Nat.add_zero, hrow'.drew.Eld (show 0 < [mv', iv'].length by simp), hos.Eix0 h0, hos.Eld h0, cell_e16]
      refine E_callK (Mul_w.call (w := w4.drew) hm' _ _ fun w5 hl => ?_)
      have hos5 := hl.sl hos
      simp only [ES, List.mem_cons, List.not_mem_nil, implies_true, forall_const, WS, List.getElem_cons_zero, List.getElem_cons_succ, Option.isNone_some, Option.isNone_none, List.getD_cons_zero, List.getD_cons_succ, I.at, atL, atO, atP, evp, evs, retV, ↓reduceIte, Nat.reduceEqDiff, reduceCtorEq, hos5.Eix0 h0]
      refine Ow.Est (hl.ow hom.drew) h0 (ms[0] * l[i]) fun w6 ho6 hg6 => ?_
      have hB6 : RowKit.Below w.heap.size w w6 := (hl.bel (hB4.trans ((bel_drew w4).mono hB4.size)) hB4.size).grown hg6 (by rw [hl.size]; exact hB4.size) fun b hb => (hom.blk b hb).1
      simp only [ES, List.mem_cons, List.not_mem_nil, implies_true, forall_const, WS, List.getElem_cons_zero, List.getElem_cons_succ, Option.isNone_some, Option.isNone_none, List.getD_cons_zero, List.getD_cons_succ, I.at, atL, atO, atP, evp, evs, retV, ↓reduceIte, Nat.reduceEqDiff, reduceCtorEq, t0, t5, t7, t8, t10, t11, t12, wi, toI_int]
      refine ⟨⟨hB6, i + 1, q, _, rfl, by omega, rfl, ho6, by simp [hml], ?_⟩, by omega⟩
      rw [vps_take l hlt, ← hc]
      refine Ps.ext fun k => ?_
      rw [co_set _ h0, hmc k]
      by_cases hk : k = 0
      · subst hk
        have := hmc 0
        rw [if_pos (Nat.le_refl _), co_get ms h0] at this
        rw [if_pos rfl, lin_mul, if_pos rfl, El.add_zero, this, El.mul_comm]
      · rw [if_neg hk, if_neg (by omega)]
    · obtain ⟨j, rfl⟩ : ∃ k, j = k + 1 := ⟨j - 1, by omega⟩
      have hj1 : j + 1 < ms.length := by omega
      have hj0 : j < ms.length := by omega
      have wj : IntKind.i64.wrap (((j + 1 : Nat) : Int) - 1) = (j : Int) := by rw [wrap_id (by omega) (by omega)]; omega
      simp only [WS, List.getElem_cons_zero, List.getElem_cons_succ, Option.isNone_some, Option.isNone_none, List.getD_cons_zero, List.getD_cons_succ, I.at, atL, atO, atP, evp, evs, retV, ↓reduceIte, Nat.reduceEqDiff, reduceCtorEq, t0, t5, t7, t8, t10, t11, t12, show decide ((0 : Int) < ((j + 1 : Nat) : Int)) = true from decide_eq_true (by omega)]
      refine WP_dops ?_
      simp only [ES, List.mem_cons, List.not_mem_nil, implies_true, forall_const, WS, List.getElem_cons_zero, List.getElem_cons_succ, Option.isNone_some, Option.isNone_none, List.getD_cons_zero, List.getD_cons_succ, I.at, atL, atO, atP, evp, evs, retV, ↓reduceIte, Nat.reduceEqDiff, reduceCtorEq, t0, t5, t7, t8, wj, addr_add0, Nat.add_zero, hrow'.drew.Eld (show 0 < [mv', iv'].length by simp), hos.Eix hj0, hos.Eld hj0, hos.Eix hj1, hos.Eld hj1, cell_e16]
      refine E_callK (Mul_w.call (w := w4.drew) hm' _ _ fun w5 hl => ?_)
      have hos5 := hl.sl hos
      have hsee := hos5.sees hj0 Try.prog
      rw [cell_e16] at hsee
      simp only [ES, List.mem_cons, List.not_mem_nil, implies_true, forall_const, WS, List.getElem_cons_zero, List.getElem_cons_succ, Option.isNone_some, Option.isNone_none, List.getD_cons_zero, List.getD_cons_succ, I.at, atL, atO, atP, evp, evs, retV, ↓reduceIte, Nat.reduceEqDiff, reduceCtorEq, hsee, xor16, hos5.Eix hj1]
      refine Ow.Est (hl.ow hom.drew) hj1 (ms[j] + ms[j + 1] * l[i]) fun w6 ho6 hg6 => ?_
      have hB6 : RowKit.Below w.heap.size w w6 := (hl.bel (hB4.trans ((bel_drew w4).mono hB4.size)) hB4.size).grown hg6 (by rw [hl.size]; exact hB4.size) fun b hb => (hom.blk b hb).1
      simp only [ES, List.mem_cons, List.not_mem_nil, implies_true, forall_const, WS, List.getElem_cons_zero, List.getElem_cons_succ, Option.isNone_some, Option.isNone_none, List.getD_cons_zero, List.getD_cons_succ, I.at, atL, atO, atP, evp, evs, retV, ↓reduceIte, Nat.reduceEqDiff, reduceCtorEq, t0, t5, t7, t8, t10, t11, t12, wj, toI_int]
      refine ⟨⟨hB6, j, _, rfl, by omega, ho6, by simp [hml], fun k => ?_⟩, by omega⟩
      rw [co_set _ hj1, hmc k]
      by_cases hk : k = j + 1
      · subst hk
        have g1 := hmc (j + 1)
        have g0 := hmc j
        rw [if_pos (Nat.le_refl _), co_get ms hj1] at g1
        rw [if_pos (by omega), co_get ms hj0] at g0
        rw [if_pos rfl, if_neg (by omega), lin_mul, if_neg (by omega), Nat.add_sub_cancel, g1, g0, El.add_comm, El.mul_comm]
      · rw [if_neg hk]
        by_cases hkj : k ≤ j
        · rw [if_pos (by omega), if_pos hkj]
        · rw [if_neg (by omega), if_neg hkj]
  · have : i = l.length := by omega
    subst this
    rw [List.take_length] at hc
    simp only [WS, List.getElem_cons_zero, List.getElem_cons_succ, Option.isNone_some, Option.isNone_none, List.getD_cons_zero, List.getD_cons_succ, I.at, atL, atO, atP, evp, evs, retV, ↓reduceIte, Nat.reduceEqDiff, reduceCtorEq, t0, t5, t10, t11, t12, show decide ((l.length : Int) < (l.length : Int)) = false from decide_eq_false (by omega)]
    exact ⟨ls, ho, hll, hc, hB⟩
theorem polys_Ring_w_Vanishing_spec (w : World) (r s : Value) (l : List (El 16)) (hr : Ring_w w r) (h : Sl w s l) (hb : l.length ≤ 70368744175616) :
    CallV Try.prog 42 [r, s] w fun v w' => RowKit.Below w.heap.size w w' ∧
      ((l.length ≤ 1024 ∧ ∃ s m, v = .tuple #[s, .int .i64 0] ∧ Ow w.heap.size w' s m ∧ m.length = l.length + 1 ∧ co m = vps l) ∨
       (¬ l.length ≤ 1024 ∧ v = .tuple #[.slice none 0 0, .int .i64 5])) := by
  refine run_polys_Ring_w_Vanishing (by simp) ?_
  simp only [c_polys_Ring_w_Vanishing, WS, List.getElem_cons_zero, List.getElem_cons_succ, Option.isNone_some, Option.isNone_none, List.getD_cons_zero, List.getD_cons_succ, I.at, atL, atO, atP, evp, evs, retV, ↓reduceIte, Nat.reduceEqDiff, reduceCtorEq]
  obtain ⟨e1, n1⟩ := h.hd
  refine X_bsl (zs := [hd s]) (fill1 h) rfl fun ls w1 ho hB => ?_
  obtain ⟨b, mv, iv, rfl, -, -⟩ := id hr
  simp only [WS, List.getElem_cons_zero, List.getElem_cons_succ, Option.isNone_some, Option.isNone_none, List.getD_cons_zero, List.getD_cons_succ, I.at, atL, atO, atP, evp, evs, retV, ↓reduceIte, Nat.reduceEqDiff, reduceCtorEq]
  refine X_call0 ((polys_Ring_w_refuses_spec w1 _ ls _ ho.sl (by simp) (by simp [n1]; omega)).mono ?_)
  rintro v w' ⟨rfl, rfl⟩
  have hiff : (∀ x ∈ [hd s], x.n ≤ 1024) = (l.length ≤ 1024) := by simp [n1]
  by_cases hsz : l.length ≤ 1024
  · rw [if_pos (hiff.mpr hsz)]
    simp only [WS, List.getElem_cons_zero, List.getElem_cons_succ, Option.isNone_some, Option.isNone_none, List.getD_cons_zero, List.getD_cons_succ, I.at, atL, atO, atP, evp, evs, retV, ↓reduceIte, Nat.reduceEqDiff, reduceCtorEq, show decide ((0 : Int) = 0) = true from rfl]
    refine X_call0 ((polys_Ring_w_vanishing_spec w' _ s l (hr.up hB) (h.up hB) (by omega)).mono ?_)
    rintro v w2 ⟨l, ho, h3, h4, hB2⟩
    simp only [WS, List.getElem_cons_zero, List.getElem_cons_succ, Option.isNone_some, Option.isNone_none, List.getD_cons_zero, List.getD_cons_succ, I.at, atL, atO, atP, evp, evs, retV, ↓reduceIte, Nat.reduceEqDiff, reduceCtorEq]
    exact ⟨hB.trans (hB2.mono hB.size), Or.inl ⟨hsz, v, l, rfl, ho.mono hB.size, h3, h4⟩⟩
  · rw [if_neg (fun e => hsz (hiff.mp e))]
    simp only [WS, List.getElem_cons_zero, List.getElem_cons_succ, Option.isNone_some, Option.isNone_none, List.getD_cons_zero, List.getD_cons_succ, I.at, atL, atO, atP, evp, evs, retV, ↓reduceIte, Nat.reduceEqDiff, reduceCtorEq, show decide ((5 : Int) = 0) = false from rfl]
    exact ⟨hB, Or.inr hsz⟩
end Go.Proofs.Ytbaljbadlfopgaa.Fw
