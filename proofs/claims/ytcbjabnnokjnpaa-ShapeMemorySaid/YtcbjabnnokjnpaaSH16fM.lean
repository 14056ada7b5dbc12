import Derived.Test.YtcbjabnnokjnpaaProg
import Derived.Test.YtcbjabnnokjnpaaFwTM
import Derived.Test.YtcbjabnnokjnpaaSH16eM
set_option linter.all false
set_option linter.unusedVariables false
set_option linter.unusedSimpArgs false
set_option maxRecDepth 100000
set_option maxHeartbeats 1000000
namespace Go.Proofs.Ytcbjabnnokjnpaa.Fw
open Go Go.Fw Go.Proofs
attribute [local irreducible] stepI
def c_shape_Length : C := .seq (.ops [⟨0, (some 8), none, .mov (.c (.int .i64 0)), []⟩, ⟨1, (some 9), none, .mov (.c (.int .i64 0)), []⟩]) (.seq (.seq (.ops [⟨0, (some 12), none, .mov (.t 0), []⟩, ⟨1, (some 13), none, .mov (.t 1), []⟩, ⟨2, (some 14), none, .mov (.t 2), []⟩, ⟨3, (some 15), none, .call (.c (.func (.func 14) #[] #[])) [.t 12, .t 13, .t 14], []⟩, ⟨4, (some 10), none, .mov (.t 15), []⟩]) (.seq (.ops [⟨0, (some 16), none, .mov (.t 10), []⟩, ⟨1, (some 17), none, .bin .neq (.t 16) (.c (.int .i64 0)), []⟩]) (.ite (.t 17) (.seq (.ops [⟨0, (some 18), none, .mov (.t 10), []⟩, ⟨1, (some 8), none, .mov (.c (.int .i64 0)), []⟩, ⟨2, (some 9), none, .mov (.t 18), []⟩]) .ret) .skip))) (.seq (.block 0 (.seq (.ops [⟨0, (some 20), none, .mov (.t 3), []⟩, ⟨1, (some 21), none, .bin .lss (.t 20) (.c (.int .i64 1)), []⟩, ⟨2, (some 19), none, .mov (.t 21), []⟩]) (.ite (.t 19) (.seq (.ops [⟨0, (some 8), none, .mov (.c (.int .i64 0)), []⟩, ⟨1, (some 9), none, .mov (.c (.int .i64 163)), []⟩]) .ret) (.seq (.ops [⟨0, (some 23), none, .mov (.t 3), []⟩, ⟨1, (some 24), none, .bin .gtr (.t 23) (.c (.int .i64 1099511627776)), []⟩, ⟨2, (some 22), none, .mov (.t 24), []⟩]) (.ite (.t 22) (.seq (.ops [⟨0, (some 8), none, .mov (.c (.int .i64 0)), []⟩, ⟨1, (some 9), none, .mov (.c (.int .i64 5)), []⟩]) .ret) .skip))))) (.seq (.ops [⟨0, (some 25), none, .mov (.t 3), []⟩, ⟨1, (some 26), none, .mov (.t 1), []⟩, ⟨2, (some 27), none, .bin .add (.t 25) (.t 26), []⟩, ⟨3, (some 28), none, .bin .sub (.t 27) (.c (.int .i64 1)), []⟩, ⟨4, (some 29), none, .mov (.t 1), []⟩, ⟨5, (some 30), none, .bin .quo (.t 28) (.t 29), []⟩, ⟨6, (some 11), none, .mov (.t 30), []⟩]) (.seq (.seq (.ops [⟨0, (some 31), none, .mov (.t 0), []⟩, ⟨1, (some 32), none, .mov (.t 11), []⟩, ⟨2, (some 33), none, .call (.c (.func (.func 30) #[] #[])) [.t 31, .t 32], []⟩]) (.ite (.t 33) (.ops [⟨0, (some 34), none, .mov (.t 11), []⟩, ⟨1, (some 35), none, .bin .add (.t 34) (.c (.int .i64 1)), []⟩, ⟨2, (some 11), none, .mov (.t 35), []⟩]) .skip)) (.seq (.ops [⟨0, (some 36), none, .mov (.t 11), []⟩, ⟨1, (some 8), none, .mov (.t 36), []⟩, ⟨2, (some 9), none, .mov (.c (.int .i64 0)), []⟩]) .ret)))))
attribute [irreducible] c_shape_Length
theorem run_shape_Length {args : List Value} {w : World} {K : Value → World → Prop} (hn : args.length ≤ 37) (h : WP Try.prog c_shape_Length (endQ [.t 8, .t 9] K) (initT args) w) : CallV Try.prog 15 args w K :=
  call_of follows Try.func15 (by kernel_rfl) (by kernel_rfl) hn h
def c_culletlaw16_sameBytes : C := .seq (.ops [⟨0, (some 4), none, .mov (.c (.bool false)), []⟩]) (.seq (.seq (.ops [⟨0, (some 6), none, .mov (.t 0), []⟩, ⟨1, (some 7), none, .len (.t 6), []⟩, ⟨2, (some 8), none, .mov (.t 1), []⟩, ⟨3, (some 9), none, .len (.t 8), []⟩, ⟨4, (some 10), none, .bin .neq (.t 7) (.t 9), []⟩]) (.ite (.t 10) (.seq (.ops [⟨0, (some 4), none, .mov (.c (.bool false)), []⟩]) .ret) .skip)) (.seq (.seq (.ops [⟨0, (some 5), none, .mov (.c (.int .i64 0)), []⟩]) (.block 0 (.loop (.seq (.seq (.ops [⟨0, (some 11), none, .mov (.t 5), []⟩, ⟨1, (some 12), none, .mov (.t 0), []⟩, ⟨2, (some 13), none, .len (.t 12), []⟩, ⟨3, (some 14), none, .bin .lss (.t 11) (.t 13), []⟩]) (.ite (.t 14) .skip (.exit 0))) (.seq (.block 1 (.seq (.dops [⟨0, (some 17), none, .mov (.t 0), []⟩, ⟨1, (some 18), none, .mov (.t 5), []⟩, ⟨2, (some 19), none, .ixs 1 (.t 17) (.t 18), []⟩, ⟨3, (some 20), none, .ld (.t 19), []⟩, ⟨4, (some 21), none, .mov (.t 1), []⟩, ⟨5, (some 22), none, .mov (.t 5), []⟩, ⟨6, (some 23), none, .ixs 1 (.t 21) (.t 22), []⟩, ⟨7, (some 24), none, .ld (.t 23), []⟩, ⟨8, (some 25), none, .bin .neq (.t 20) (.t 24), []⟩]) (.ite (.t 25) (.seq (.ops [⟨0, (some 4), none, .mov (.c (.bool false)), []⟩]) .ret) .skip))) (.ops [⟨0, (some 15), none, .mov (.t 5), []⟩, ⟨1, (some 16), none, .bin .add (.t 15) (.c (.int .i64 1)), []⟩, ⟨2, (some 5), none, .mov (.t 16), []⟩])))))) (.seq (.ops [⟨0, (some 4), none, .mov (.c (.bool true)), []⟩]) .ret)))
attribute [irreducible] c_culletlaw16_sameBytes
theorem run_culletlaw16_sameBytes {args : List Value} {w : World} {K : Value → World → Prop} (hn : args.length ≤ 26) (h : WP Try.prog c_culletlaw16_sameBytes (endQ [.t 4] K) (initT args) w) : CallV Try.prog 19 args w K :=
  call_of follows Try.func19 (by kernel_rfl) (by kernel_rfl) hn h
def c_culletref16_Params : C := .seq (.ops [⟨0, (some 6), none, .mov (.c (.int .i64 0)), []⟩]) (.seq (.seq (.ops [⟨0, (some 9), none, .mov (.t 0), []⟩, ⟨1, (some 10), none, .bin .neq (.t 9) (.c (.int .i64 0)), []⟩, ⟨2, (some 11), none, .mov (.t 10), []⟩, ⟨3, (some 12), (some (11, true)), .mov (.t 0), []⟩, ⟨4, (some 13), (some (11, true)), .bin .neq (.t 12) (.c (.int .i64 1)), []⟩, ⟨5, (some 14), none, .pick (.t 11) (.t 13) (.c (.bool false)), []⟩, ⟨6, (some 15), none, .mov (.t 14), []⟩, ⟨7, (some 16), (some (15, true)), .mov (.t 0), []⟩, ⟨8, (some 17), (some (15, true)), .bin .neq (.t 16) (.c (.int .i64 2)), []⟩, ⟨9, (some 18), none, .pick (.t 15) (.t 17) (.c (.bool false)), []⟩]) (.ite (.t 18) (.seq (.ops [⟨0, (some 6), none, .mov (.c (.int .i64 2)), []⟩]) .ret) .skip)) (.seq (.seq (.ops [⟨0, (some 19), none, .mov (.t 1), []⟩, ⟨1, (some 20), none, .bin .lss (.t 19) (.c (.int .i64 1)), []⟩, ⟨2, (some 21), none, .mov (.t 20), []⟩, ⟨3, (some 22), (some (21, false)), .mov (.t 2), []⟩, ⟨4, (some 23), (some (21, false)), .bin .lss (.t 22) (.c (.int .i64 1)), []⟩, ⟨5, (some 24), none, .pick (.t 21) (.c (.bool true)) (.t 23), []⟩, ⟨6, (some 25), none, .mov (.t 24), []⟩, ⟨7, (some 26), (some (25, false)), .mov (.t 1), []⟩, ⟨8, (some 27), (some (25, false)), .bin .gtr (.t 26) (.c (.int .i64 65536)), []⟩, ⟨9, (some 28), none, .pick (.t 25) (.c (.bool true)) (.t 27), []⟩, ⟨10, (some 29), none, .mov (.t 28), []⟩, ⟨11, (some 30), (some (29, false)), .mov (.t 2), []⟩, ⟨12, (some 31), (some (29, false)), .bin .gtr (.t 30) (.c (.int .i64 65536)), []⟩, ⟨13, (some 32), none, .pick (.t 29) (.c (.bool true)) (.t 31), []⟩]) (.ite (.t 32) (.seq (.ops [⟨0, (some 6), none, .mov (.c (.int .i64 4)), []⟩]) .ret) .skip)) (.seq (.seq (.ops [⟨0, (some 33), none, .mov (.t 0), []⟩, ⟨1, (some 34), none, .bin .neq (.t 33) (.c (.int .i64 2)), []⟩]) (.ite (.t 34) (.seq (.seq (.ops [⟨0, (some 35), none, .mov (.t 1), []⟩, ⟨1, (some 36), none, .mov (.t 2), []⟩, ⟨2, (some 37), none, .bin .add (.t 35) (.t 36), []⟩, ⟨3, (some 38), none, .bin .gtr (.t 37) (.c (.int .i64 256)), []⟩]) (.ite (.t 38) (.seq (.ops [⟨0, (some 6), none, .mov (.c (.int .i64 4)), []⟩]) .ret) .skip)) (.seq (.ops [⟨0, (some 6), none, .mov (.c (.int .i64 0)), []⟩]) .ret)) .skip)) (.seq (.ops [⟨0, (some 40), none, .mov (.t 2), []⟩, ⟨1, (some 41), none, .call (.c (.func (.func 35) #[] #[])) [.t 40], []⟩, ⟨2, (some 39), none, .mov (.t 41), []⟩, ⟨3, (some 42), none, .ext (.t 39) 0, []⟩, ⟨4, (some 43), none, .ext (.t 39) 1, []⟩, ⟨5, (some 7), none, .mov (.t 42), []⟩, ⟨6, (some 8), none, .mov (.t 43), []⟩]) (.seq (.seq (.ops [⟨0, (some 44), none, .mov (.t 7), []⟩, ⟨1, (some 45), none, .mov (.t 1), []⟩, ⟨2, (some 46), none, .bin .add (.t 44) (.t 45), []⟩, ⟨3, (some 47), none, .bin .gtr (.t 46) (.c (.int .i64 65536)), []⟩]) (.ite (.t 47) (.seq (.ops [⟨0, (some 6), none, .mov (.c (.int .i64 4)), []⟩]) .ret) .skip)) (.seq (.ops [⟨0, (some 6), none, .mov (.c (.int .i64 0)), []⟩]) .ret))))))
attribute [irreducible] c_culletref16_Params
theorem run_culletref16_Params {args : List Value} {w : World} {K : Value → World → Prop} (hn : args.length ≤ 48) (h : WP Try.prog c_culletref16_Params (endQ [.t 6] K) (initT args) w) : CallV Try.prog 20 args w K :=
  call_of follows Try.func20 (by kernel_rfl) (by kernel_rfl) hn h
def c_culletref16_Length : C := .seq (.ops [⟨0, (some 8), none, .mov (.c (.int .i64 0)), []⟩, ⟨1, (some 9), none, .mov (.c (.int .i64 0)), []⟩]) (.seq (.ops [⟨0, (some 11), none, .mov (.t 0), []⟩, ⟨1, (some 12), none, .mov (.t 1), []⟩, ⟨2, (some 13), none, .mov (.t 2), []⟩, ⟨3, (some 14), none, .call (.c (.func (.func 20) #[] #[])) [.t 11, .t 12, .t 13], []⟩, ⟨4, (some 10), none, .mov (.t 14), []⟩]) (.seq (.seq (.ops [⟨0, (some 15), none, .mov (.t 10), []⟩, ⟨1, (some 16), none, .bin .neq (.t 15) (.c (.int .i64 0)), []⟩]) (.ite (.t 16) (.seq (.ops [⟨0, (some 17), none, .mov (.t 10), []⟩, ⟨1, (some 8), none, .mov (.c (.int .i64 0)), []⟩, ⟨2, (some 9), none, .mov (.t 17), []⟩]) .ret) .skip)) (.seq (.seq (.ops [⟨0, (some 18), none, .mov (.t 3), []⟩, ⟨1, (some 19), none, .bin .lss (.t 18) (.c (.int .i64 1)), []⟩]) (.ite (.t 19) (.seq (.ops [⟨0, (some 8), none, .mov (.c (.int .i64 0)), []⟩, ⟨1, (some 9), none, .mov (.c (.int .i64 163)), []⟩]) .ret) .skip)) (.seq (.seq (.ops [⟨0, (some 20), none, .mov (.t 3), []⟩, ⟨1, (some 21), none, .bin .gtr (.t 20) (.c (.int .i64 1099511627776)), []⟩]) (.ite (.t 21) (.seq (.ops [⟨0, (some 8), none, .mov (.c (.int .i64 0)), []⟩, ⟨1, (some 9), none, .mov (.c (.int .i64 5)), []⟩]) .ret) .skip)) (.seq (.ops [⟨0, (some 22), none, .mov (.t 0), []⟩, ⟨1, (some 23), none, .mov (.t 1), []⟩, ⟨2, (some 24), none, .mov (.t 3), []⟩, ⟨3, (some 25), none, .call (.c (.func (.func 39) #[] #[])) [.t 22, .t 23, .t 24], []⟩, ⟨4, (some 8), none, .mov (.t 25), []⟩, ⟨5, (some 9), none, .mov (.c (.int .i64 0)), []⟩]) .ret)))))
attribute [irreducible] c_culletref16_Length
theorem run_culletref16_Length {args : List Value} {w : World} {K : Value → World → Prop} (hn : args.length ≤ 26) (h : WP Try.prog c_culletref16_Length (endQ [.t 8, .t 9] K) (initT args) w) : CallV Try.prog 32 args w K :=
  call_of follows Try.func32 (by kernel_rfl) (by kernel_rfl) hn h
def c_culletref16_Pow2 : C := .seq (.ops [⟨0, (some 2), none, .mov (.c (.int .i64 0)), []⟩, ⟨1, (some 3), none, .mov (.c (.int .i64 0)), []⟩]) (.seq (.seq (.ops [⟨0, (some 5), none, .mov (.t 0), []⟩, ⟨1, (some 6), none, .bin .lss (.t 5) (.c (.int .i64 1)), []⟩, ⟨2, (some 7), none, .mov (.t 6), []⟩, ⟨3, (some 8), (some (7, false)), .mov (.t 0), []⟩, ⟨4, (some 9), (some (7, false)), .bin .gtr (.t 8) (.c (.int .i64 65536)), []⟩, ⟨5, (some 10), none, .pick (.t 7) (.c (.bool true)) (.t 9), []⟩]) (.ite (.t 10) (.seq (.ops [⟨0, (some 2), none, .mov (.c (.int .i64 0)), []⟩, ⟨1, (some 3), none, .mov (.c (.int .i64 7)), []⟩]) .ret) .skip)) (.seq (.ops [⟨0, (some 4), none, .mov (.c (.int .i64 1)), []⟩]) (.seq (.block 0 (.loop (.seq (.seq (.ops [⟨0, (some 11), none, .mov (.t 4), []⟩, ⟨1, (some 12), none, .mov (.t 0), []⟩, ⟨2, (some 13), none, .bin .lss (.t 11) (.t 12), []⟩]) (.ite (.t 13) .skip (.exit 0))) (.block 1 (.ops [⟨0, (some 14), none, .mov (.t 4), []⟩, ⟨1, (some 15), none, .bin .mul (.c (.int .i64 2)) (.t 14), []⟩, ⟨2, (some 4), none, .mov (.t 15), []⟩]))))) (.seq (.ops [⟨0, (some 16), none, .mov (.t 4), []⟩, ⟨1, (some 2), none, .mov (.t 16), []⟩, ⟨2, (some 3), none, .mov (.c (.int .i64 0)), []⟩]) .ret))))
attribute [irreducible] c_culletref16_Pow2
theorem run_culletref16_Pow2 {args : List Value} {w : World} {K : Value → World → Prop} (hn : args.length ≤ 17) (h : WP Try.prog c_culletref16_Pow2 (endQ [.t 2, .t 3] K) (initT args) w) : CallV Try.prog 35 args w K :=
  call_of follows Try.func35 (by kernel_rfl) (by kernel_rfl) hn h
def c_culletref16_length : C := .seq (.ops [⟨0, (some 6), none, .mov (.c (.int .i64 0)), []⟩]) (.seq (.ops [⟨0, (some 8), none, .mov (.t 2), []⟩, ⟨1, (some 9), none, .mov (.t 1), []⟩, ⟨2, (some 10), none, .bin .quo (.t 8) (.t 9), []⟩, ⟨3, (some 7), none, .mov (.t 10), []⟩]) (.seq (.seq (.ops [⟨0, (some 11), none, .mov (.t 2), []⟩, ⟨1, (some 12), none, .mov (.t 1), []⟩, ⟨2, (some 13), none, .bin .rem (.t 11) (.t 12), []⟩, ⟨3, (some 14), none, .bin .gtr (.t 13) (.c (.int .i64 0)), []⟩]) (.ite (.t 14) (.ops [⟨0, (some 15), none, .mov (.t 7), []⟩, ⟨1, (some 16), none, .bin .add (.t 15) (.c (.int .i64 1)), []⟩, ⟨2, (some 7), none, .mov (.t 16), []⟩]) .skip)) (.seq (.seq (.ops [⟨0, (some 17), none, .mov (.t 0), []⟩, ⟨1, (some 18), none, .bin .eql (.t 17) (.c (.int .i64 2)), []⟩, ⟨2, (some 19), none, .mov (.t 18), []⟩, ⟨3, (some 20), (some (19, true)), .mov (.t 7), []⟩, ⟨4, (some 21), (some (19, true)), .bin .rem (.t 20) (.c (.int .i64 2)), []⟩, ⟨5, (some 22), (some (19, true)), .bin .eql (.t 21) (.c (.int .i64 1)), []⟩, ⟨6, (some 23), none, .pick (.t 19) (.t 22) (.c (.bool false)), []⟩]) (.ite (.t 23) (.ops [⟨0, (some 24), none, .mov (.t 7), []⟩, ⟨1, (some 25), none, .bin .add (.t 24) (.c (.int .i64 1)), []⟩, ⟨2, (some 7), none, .mov (.t 25), []⟩]) .skip)) (.seq (.ops [⟨0, (some 26), none, .mov (.t 7), []⟩, ⟨1, (some 6), none, .mov (.t 26), []⟩]) .ret))))
attribute [irreducible] c_culletref16_length
theorem run_culletref16_length {args : List Value} {w : World} {K : Value → World → Prop} (hn : args.length ≤ 27) (h : WP Try.prog c_culletref16_length (endQ [.t 6] K) (initT args) w) : CallV Try.prog 39 args w K :=
  call_of follows Try.func39 (by kernel_rfl) (by kernel_rfl) hn h
end Go.Proofs.Ytcbjabnnokjnpaa.Fw
namespace Go.Proofs.Ytcbjabnnokjnpaa.Fw
open Go Go.Fw
theorem culletlaw16_sameBytes_spec (w : World) (s1 s2 : Value) (l1 l2 : List (El 8)) (h1 : Sl w s1 l1) (h2 : Sl w s2 l2) (hb : l1.length ≤ 140737488355328) (hb2 : l2.length ≤ 140737488355328) :
    CallV Try.prog 19 [s1, s2] w fun v w' => v = .bool (decide (l1 = l2)) ∧ Like w w' := by
  refine run_culletlaw16_sameBytes (by simp) ?_
  simp only [c_culletlaw16_sameBytes, WS, List.getElem_cons_zero, List.getElem_cons_succ, Option.isNone_some, Option.isNone_none, List.getD_cons_zero, List.getD_cons_succ, I.at, atL, atO, atP, evp, evs, retV, ↓reduceIte, Nat.reduceEqDiff, reduceCtorEq, h1.Xlen, h2.Xlen]
  by_cases hl : l1.length = l2.length
  · simp only [WS, List.getElem_cons_zero, List.getElem_cons_succ, Option.isNone_some, Option.isNone_none, List.getD_cons_zero, List.getD_cons_succ, I.at, atL, atO, atP, evp, evs, retV, ↓reduceIte, Nat.reduceEqDiff, reduceCtorEq, show decide ((l1.length : Int) = (l2.length : Int)) = true from decide_eq_true (by omega)]
    refine loop_of (fun t w' => Like w w' ∧ t 0 = s1 ∧ t 1 = s2 ∧ ∃ i : Nat, t 5 = .int .i64 (i : Int) ∧ i ≤ l1.length ∧ l1.take i = l2.take i) (fun t _ => l1.length - (toI (t 5)).toNat) ⟨Like.refl w, rfl, rfl, 0, rfl, by omega, by simp⟩ ?_
    rintro t w' ⟨hk, t0, t1, i, t5, hi, he⟩
    have g1 := hk.sl h1
    have g2 := hk.sl h2
    by_cases hlt : i < l1.length
    · have hlt2 : i < l2.length := by omega
      simp only [WS, List.getElem_cons_zero, List.getElem_cons_succ, Option.isNone_some, Option.isNone_none, List.getD_cons_zero, List.getD_cons_succ, I.at, atL, atO, atP, evp, evs, retV, ↓reduceIte, Nat.reduceEqDiff, reduceCtorEq, t0, t1, t5, g1.Xlen, show decide ((i : Int) < (l1.length : Int)) = true from decide_eq_true (by omega)]
      refine WP_dops ?_
      simp only [ES, List.mem_cons, List.not_mem_nil, implies_true, forall_const, WS, List.getElem_cons_zero, List.getElem_cons_succ, Option.isNone_some, Option.isNone_none, List.getD_cons_zero, List.getD_cons_succ, I.at, atL, atO, atP, evp, evs, retV, ↓reduceIte, Nat.reduceEqDiff, reduceCtorEq, t0, t1, t5, g1.drew.Eix hlt, g1.drew.Eld hlt, g2.drew.Eix hlt2, g2.drew.Eld hlt2, cell_e8, el_eq]
      by_cases hx : l1[i] = l2[i]
      · simp only [WS, List.getElem_cons_zero, List.getElem_cons_succ, Option.isNone_some, Option.isNone_none, List.getD_cons_zero, List.getD_cons_succ, I.at, atL, atO, atP, evp, evs, retV, ↓reduceIte, Nat.reduceEqDiff, reduceCtorEq, t0, t1, t5, decide_eq_true hx, wrap_id (show -9223372036854775808 ≤ (i : Int) + 1 by omega) (show (i : Int) + 1 < 9223372036854775808 by omega), toI_int]
        refine ⟨⟨hk.trans (Like.drew _), i + 1, rfl, by omega, ?_⟩, by omega⟩
        rw [List.take_add_one, List.take_add_one, he, List.getElem?_eq_getElem hlt, List.getElem?_eq_getElem hlt2, hx]
      · have : ¬ l1 = l2 := fun e => hx (by subst e; rfl)
        simp only [WS, List.getElem_cons_zero, List.getElem_cons_succ, Option.isNone_some, Option.isNone_none, List.getD_cons_zero, List.getD_cons_succ, I.at, atL, atO, atP, evp, evs, retV, ↓reduceIte, Nat.reduceEqDiff, reduceCtorEq, t0, t1, t5, decide_eq_false hx, decide_eq_false this]
        exact hk.trans (Like.drew _)
    · rw [List.take_of_length_le (by omega), List.take_of_length_le (by omega)] at he
      simp only [WS, List.getElem_cons_zero, List.getElem_cons_succ, Option.isNone_some, Option.isNone_none, List.getD_cons_zero, List.getD_cons_succ, I.at, atL, atO, atP, evp, evs, retV, ↓reduceIte, Nat.reduceEqDiff, reduceCtorEq, t0, t1, t5, g1.Xlen, show decide ((i : Int) < (l1.length : Int)) = false from decide_eq_false (by omega), decide_eq_true he]
      exact hk
  · have : ¬ l1 = l2 := fun e => hl (by rw [e])
    simp only [WS, List.getElem_cons_zero, List.getElem_cons_succ, Option.isNone_some, Option.isNone_none, List.getD_cons_zero, List.getD_cons_succ, I.at, atL, atO, atP, evp, evs, retV, ↓reduceIte, Nat.reduceEqDiff, reduceCtorEq, show decide ((l1.length : Int) = (l2.length : Int)) = false from decide_eq_false (by omega), decide_eq_false this]
    exact Like.refl w
end Go.Proofs.Ytcbjabnnokjnpaa.Fw

namespace Go.Proofs.Ytcbjabnnokjnpaa.Fw
open Go Go.Fw
theorem culletref16_Pow2_spec (w : World) (n : Nat) (h1 : 1 ≤ n) (hn : n ≤ 65536) : CallV Try.prog 35 [.int .i64 (n : Int)] w fun v w' => v = .tuple #[.int .i64 ((pwN 17 1 n : Nat) : Int), .int .i64 0] ∧ w' = w := by
  refine run_culletref16_Pow2 (by simp) ?_
  simp only [c_culletref16_Pow2, WS, List.getElem_cons_zero, List.getElem_cons_succ, Option.isNone_some, Option.isNone_none, List.getD_cons_zero, List.getD_cons_succ, I.at, atL, atO, atP, evp, evs, retV, ↓reduceIte, Nat.reduceEqDiff, reduceCtorEq]
  simp (maxSteps := 1000000) (disch := omega) only [WS, List.getElem_cons_zero, List.getElem_cons_succ, Option.isNone_some, Option.isNone_none, List.getD_cons_zero, List.getD_cons_succ, I.at, atL, atO, atP, evp, evs, retV, ↓reduceIte, Nat.reduceEqDiff, reduceCtorEq, AS]
  refine loop_of (fun t w' => w' = w ∧ t 0 = .int .i64 (n : Int) ∧ ∃ j p : Nat, t 4 = .int .i64 (p : Int) ∧ j ≤ 17 ∧ p = 2 ^ (17 - j) ∧ pwN j p n = pwN 17 1 n) (fun t _ => 200000 - (toI (t 4)).toNat) ⟨rfl, by simp only [WS, List.getElem_cons_zero, List.getElem_cons_succ, Option.isNone_some, Option.isNone_none, List.getD_cons_zero, List.getD_cons_succ, I.at, atL, atO, atP, evp, evs, retV, ↓reduceIte, Nat.reduceEqDiff, reduceCtorEq], 17, 1, rfl, by omega, rfl, rfl⟩ ?_
  rintro t w' ⟨rfl, t0, j, p, t4, hj, hp, he⟩
  by_cases hlt : p < n
  · obtain ⟨i, rfl⟩ : ∃ i, j = i + 1 := by
      rcases j with _ | i
      · exfalso
        have : (2 : Nat) ^ 17 = 131072 := by decide
        rw [Nat.sub_zero, this] at hp
        omega
      · exact ⟨i, rfl⟩
    have h0 : 0 < p := by rw [hp]; exact Nat.two_pow_pos _
    simp (maxSteps := 1000000) (disch := omega) only [WS, List.getElem_cons_zero, List.getElem_cons_succ, Option.isNone_some, Option.isNone_none, List.getD_cons_zero, List.getD_cons_succ, I.at, atL, atO, atP, evp, evs, retV, ↓reduceIte, Nat.reduceEqDiff, reduceCtorEq, AS, t0, t4]
    refine ⟨⟨i, 2 * p, rfl, by omega, ?_, ?_⟩, by omega⟩
    · rw [hp, ← Nat.pow_succ']; congr 1; omega
    · rw [← he]; show _ = (if p < n then _ else _); rw [if_pos hlt]
  · have : pwN j p n = p := by
      cases j with
      | zero => rfl
      | succ i => show (if p < n then _ else _) = _; rw [if_neg hlt]
    rw [← he, this]
    simp (maxSteps := 1000000) (disch := omega) only [WS, List.getElem_cons_zero, List.getElem_cons_succ, Option.isNone_some, Option.isNone_none, List.getD_cons_zero, List.getD_cons_succ, I.at, atL, atO, atP, evp, evs, retV, ↓reduceIte, Nat.reduceEqDiff, reduceCtorEq, AS, t0, t4]
theorem culletref16_Params_spec (w : World) (f k m : Int) : CallV Try.prog 20 [.int .i64 f, .int .i64 k, .int .i64 m] w fun v w' => v = .int .i64 (prm f k m) ∧ w' = w := by
  refine run_culletref16_Params (by simp) ?_
  simp only [c_culletref16_Params, WS, List.getElem_cons_zero, List.getElem_cons_succ, Option.isNone_some, Option.isNone_none, List.getD_cons_zero, List.getD_cons_succ, I.at, atL, atO, atP, evp, evs, retV, ↓reduceIte, Nat.reduceEqDiff, reduceCtorEq]
  by_cases hf : 0 ≤ f ∧ f ≤ 2
  rotate_left
  · have hv : prm f k m = 2 := by unfold prm; rw [if_pos hf]
    have f0 : f ≠ 0 := by rintro rfl; exact hf ⟨by omega, by omega⟩
    have f1 : f ≠ 1 := by rintro rfl; exact hf ⟨by omega, by omega⟩
    have f2 : f ≠ 2 := by rintro rfl; exact hf ⟨by omega, by omega⟩
    rw [hv]
    simp (maxSteps := 1000000) (disch := omega) only [WS, List.getElem_cons_zero, List.getElem_cons_succ, Option.isNone_some, Option.isNone_none, List.getD_cons_zero, List.getD_cons_succ, I.at, atL, atO, atP, evp, evs, retV, ↓reduceIte, Nat.reduceEqDiff, reduceCtorEq, AS]
  by_cases h1 : k < 1
  · have hv : prm f k m = 4 := by unfold prm; rw [if_neg (fun h => h hf), if_pos (Or.inl h1)]
    rw [hv]
    by_cases f0 : f = 0
    · simp (maxSteps := 1000000) (disch := omega) only [WS, List.getElem_cons_zero, List.getElem_cons_succ, Option.isNone_some, Option.isNone_none, List.getD_cons_zero, List.getD_cons_succ, I.at, atL, atO, atP, evp, evs, retV, ↓reduceIte, Nat.reduceEqDiff, reduceCtorEq, AS]
    by_cases f1 : f = 1
    · simp (maxSteps := 1000000) (disch := omega) only [WS, List.getElem_cons_zero, List.getElem_cons_succ, Option.isNone_some, Option.isNone_none, List.getD_cons_zero, List.getD_cons_succ, I.at, atL, atO, atP, evp, evs, retV, ↓reduceIte, Nat.reduceEqDiff, reduceCtorEq, AS]
    have f2 : f = 2 := by omega
    simp (maxSteps := 1000000) (disch := omega) only [WS, List.getElem_cons_zero, List.getElem_cons_succ, Option.isNone_some, Option.isNone_none, List.getD_cons_zero, List.getD_cons_succ, I.at, atL, atO, atP, evp, evs, retV, ↓reduceIte, Nat.reduceEqDiff, reduceCtorEq, AS]
  by_cases h2 : m < 1
  · have hv : prm f k m = 4 := by unfold prm; rw [if_neg (fun h => h hf), if_pos (Or.inr (Or.inl h2))]
    rw [hv]
    by_cases f0 : f = 0
    · simp (maxSteps := 1000000) (disch := omega) only [WS, List.getElem_cons_zero, List.getElem_cons_succ, Option.isNone_some, Option.isNone_none, List.getD_cons_zero, List.getD_cons_succ, I.at, atL, atO, atP, evp, evs, retV, ↓reduceIte, Nat.reduceEqDiff, reduceCtorEq, AS]
    by_cases f1 : f = 1
    · simp (maxSteps := 1000000) (disch := omega) only [WS, List.getElem_cons_zero, List.getElem_cons_succ, Option.isNone_some, Option.isNone_none, List.getD_cons_zero, List.getD_cons_succ, I.at, atL, atO, atP, evp, evs, retV, ↓reduceIte, Nat.reduceEqDiff, reduceCtorEq, AS]
    have f2 : f = 2 := by omega
    simp (maxSteps := 1000000) (disch := omega) only [WS, List.getElem_cons_zero, List.getElem_cons_succ, Option.isNone_some, Option.isNone_none, List.getD_cons_zero, List.getD_cons_succ, I.at, atL, atO, atP, evp, evs, retV, ↓reduceIte, Nat.reduceEqDiff, reduceCtorEq, AS]
  by_cases h3 : 65536 < k
  · have hv : prm f k m = 4 := by unfold prm; rw [if_neg (fun h => h hf), if_pos (Or.inr (Or.inr (Or.inl h3)))]
    rw [hv]
    by_cases f0 : f = 0
    · simp (maxSteps := 1000000) (disch := omega) only [WS, List.getElem_cons_zero, List.getElem_cons_succ, Option.isNone_some, Option.isNone_none, List.getD_cons_zero, List.getD_cons_succ, I.at, atL, atO, atP, evp, evs, retV, ↓reduceIte, Nat.reduceEqDiff, reduceCtorEq, AS]
    by_cases f1 : f = 1
    · simp (maxSteps := 1000000) (disch := omega) only [WS, List.getElem_cons_zero, List.getElem_cons_succ, Option.isNone_some, Option.isNone_none, List.getD_cons_zero, List.getD_cons_succ, I.at, atL, atO, atP, evp, evs, retV, ↓reduceIte, Nat.reduceEqDiff, reduceCtorEq, AS]
    have f2 : f = 2 := by omega
    simp (maxSteps := 1000000) (disch := omega) only [WS, List.getElem_cons_zero, List.getElem_cons_succ, Option.isNone_some, Option.isNone_none, List.getD_cons_zero, List.getD_cons_succ, I.at, atL, atO, atP, evp, evs, retV, ↓reduceIte, Nat.reduceEqDiff, reduceCtorEq, AS]
  by_cases h4 : 65536 < m
  · have hv : prm f k m = 4 := by unfold prm; rw [if_neg (fun h => h hf), if_pos (Or.inr (Or.inr (Or.inr h4)))]
    rw [hv]
    by_cases f0 : f = 0
    · simp (maxSteps := 1000000) (disch := omega) only [WS, List.getElem_cons_zero, List.getElem_cons_succ, Option.isNone_some, Option.isNone_none, List.getD_cons_zero, List.getD_cons_succ, I.at, atL, atO, atP, evp, evs, retV, ↓reduceIte, Nat.reduceEqDiff, reduceCtorEq, AS]
    by_cases f1 : f = 1
    · simp (maxSteps := 1000000) (disch := omega) only [WS, List.getElem_cons_zero, List.getElem_cons_succ, Option.isNone_some, Option.isNone_none, List.getD_cons_zero, List.getD_cons_succ, I.at, atL, atO, atP, evp, evs, retV, ↓reduceIte, Nat.reduceEqDiff, reduceCtorEq, AS]
    have f2 : f = 2 := by omega
    simp (maxSteps := 1000000) (disch := omega) only [WS, List.getElem_cons_zero, List.getElem_cons_succ, Option.isNone_some, Option.isNone_none, List.getD_cons_zero, List.getD_cons_succ, I.at, atL, atO, atP, evp, evs, retV, ↓reduceIte, Nat.reduceEqDiff, reduceCtorEq, AS]
  obtain ⟨K, rfl⟩ : ∃ K : Nat, k = (K : Int) := ⟨k.toNat, by omega⟩
  obtain ⟨M, rfl⟩ : ∃ M : Nat, m = (M : Int) := ⟨m.toNat, by omega⟩
  by_cases f2 : f = 2
  · subst f2
    have hpl := pwN_le 17 1 M
    have hp17 : (2 : Nat) ^ 17 = 131072 := by decide
    have hv : prm 2 K M = if 65536 < (K : Int) + (pwN 17 1 M : Nat) then 4 else 0 := by
      unfold prm
      rw [if_neg (fun h => h hf), if_neg (by omega), if_neg (by omega), Int.toNat_natCast]
      simp
    rw [hv]
    simp (maxSteps := 1000000) (disch := omega) only [WS, List.getElem_cons_zero, List.getElem_cons_succ, Option.isNone_some, Option.isNone_none, List.getD_cons_zero, List.getD_cons_succ, I.at, atL, atO, atP, evp, evs, retV, ↓reduceIte, Nat.reduceEqDiff, reduceCtorEq, AS]
    refine X_call0 ((culletref16_Pow2_spec w M (by omega) (by omega)).mono ?_)
    rintro _ w' ⟨rfl, rfl⟩
    generalize pwN 17 1 M = p at *
    by_cases h5 : 65536 < (K : Int) + (p : Int)
    · have e1 : decide ((65536 : Int) < ((p + K : Nat) : Int)) = true := decide_eq_true (by omega)
      rw [if_pos h5]
      simp (maxSteps := 1000000) (disch := omega) only [WS, List.getElem_cons_zero, List.getElem_cons_succ, Option.isNone_some, Option.isNone_none, List.getD_cons_zero, List.getD_cons_succ, I.at, atL, atO, atP, evp, evs, retV, ↓reduceIte, Nat.reduceEqDiff, reduceCtorEq, AS, e1]
    · have e1 : decide ((65536 : Int) < ((p + K : Nat) : Int)) = false := decide_eq_false (by omega)
      rw [if_neg h5]
      simp (maxSteps := 1000000) (disch := omega) only [WS, List.getElem_cons_zero, List.getElem_cons_succ, Option.isNone_some, Option.isNone_none, List.getD_cons_zero, List.getD_cons_succ, I.at, atL, atO, atP, evp, evs, retV, ↓reduceIte, Nat.reduceEqDiff, reduceCtorEq, AS, e1]
  · have hv : prm f K M = if 256 < (K : Int) + (M : Int) then 4 else 0 := by
      unfold prm
      rw [if_neg (fun h => h hf), if_neg (by omega)]
      simp [f2]
    rw [hv]
    by_cases h5 : 256 < (K : Int) + (M : Int)
    · have e1 : decide ((256 : Int) < ((K + M : Nat) : Int)) = true := decide_eq_true (by omega)
      rw [if_pos h5]
      by_cases f0 : f = 0
      · simp (maxSteps := 1000000) (disch := omega) only [WS, List.getElem_cons_zero, List.getElem_cons_succ, Option.isNone_some, Option.isNone_none, List.getD_cons_zero, List.getD_cons_succ, I.at, atL, atO, atP, evp, evs, retV, ↓reduceIte, Nat.reduceEqDiff, reduceCtorEq, AS, e1]
      have f1 : f = 1 := by omega
      simp (maxSteps := 1000000) (disch := omega) only [WS, List.getElem_cons_zero, List.getElem_cons_succ, Option.isNone_some, Option.isNone_none, List.getD_cons_zero, List.getD_cons_succ, I.at, atL, atO, atP, evp, evs, retV, ↓reduceIte, Nat.reduceEqDiff, reduceCtorEq, AS, e1]
    · have e1 : decide ((256 : Int) < ((K + M : Nat) : Int)) = false := decide_eq_false (by omega)
      rw [if_neg h5]
      by_cases f0 : f = 0
      · simp (maxSteps := 1000000) (disch := omega) only [WS, List.getElem_cons_zero, List.getElem_cons_succ, Option.isNone_some, Option.isNone_none, List.getD_cons_zero, List.getD_cons_succ, I.at, atL, atO, atP, evp, evs, retV, ↓reduceIte, Nat.reduceEqDiff, reduceCtorEq, AS, e1]
      have f1 : f = 1 := by omega
      simp (maxSteps := 1000000) (disch := omega) only [WS, List.getElem_cons_zero, List.getElem_cons_succ, Option.isNone_some, Option.isNone_none, List.getD_cons_zero, List.getD_cons_succ, I.at, atL, atO, atP, evp, evs, retV, ↓reduceIte, Nat.reduceEqDiff, reduceCtorEq, AS, e1]
/-- The shards' length. -/
def lnS (f : Int) (k n : Nat) : Nat := if f = 2 ∧ ((n + k - 1) / k) % 2 = 1 then (n + k - 1) / k + 1 else (n + k - 1) / k
theorem lnS_rng {f : Int} {k n : Nat} (hk : 1 ≤ k) (hn : 1 ≤ n) : 1 ≤ lnS f k n ∧ lnS f k n ≤ n + 1 ∧ n ≤ k * lnS f k n ∧ (f = 2 → lnS f k n % 2 = 0) := by
  have h1 : 1 ≤ (n + k - 1) / k := (Nat.one_le_div_iff (by omega)).2 (by omega)
  have h2 : (n + k - 1) / k ≤ n := Nat.div_le_of_le_mul (by
    have : k * 1 ≤ k * n := Nat.mul_le_mul_left _ hn
    have h4 : k * n = (k - 1) * n + n := by
      obtain ⟨q, rfl⟩ : ∃ q, k = q + 1 := ⟨k - 1, by omega⟩
      rw [Nat.add_mul]; simp
    have h5 : (k - 1) * 1 ≤ (k - 1) * n := Nat.mul_le_mul_left _ hn
    omega)
  have h3 : n ≤ k * ((n + k - 1) / k) := by
    have := Nat.div_add_mod (n + k - 1) k
    have := Nat.mod_lt (n + k - 1) (show 0 < k by omega)
    omega
  unfold lnS
  split
  · rename_i h
    refine ⟨by omega, by omega, Nat.le_trans h3 (Nat.mul_le_mul_left _ (by omega)), fun _ => by omega⟩
  · rename_i h
    exact ⟨h1, by omega, h3, fun e => by have : ¬ ((n + k - 1) / k % 2 = 1) := fun h' => h ⟨e, h'⟩; omega⟩
theorem ceil_div {k n : Nat} (hk : 1 ≤ k) (hn : 1 ≤ n) : (n + k - 1) / k = n / k + (if 0 < n % k then 1 else 0) := by
  have h := Nat.div_add_mod n k
  have hm := Nat.mod_lt n (show 0 < k by omega)
  by_cases h0 : 0 < n % k
  · rw [if_pos h0]
    have : n + k - 1 = (n % k - 1) + k * (n / k + 1) := by rw [Nat.mul_add]; omega
    rw [this, Nat.add_mul_div_left _ _ (by omega), Nat.div_eq_of_lt (by omega), Nat.zero_add]
  · rw [if_neg h0]
    have : n + k - 1 = (k - 1) + k * (n / k) := by omega
    rw [this, Nat.add_mul_div_left _ _ (by omega), Nat.div_eq_of_lt (by omega), Nat.zero_add]; rfl
theorem shape_Length_spec (w : World) (f : Int) (k m n : Nat) (hp : prm f k m = 0) (hn : 1 ≤ n) (hn2 : n ≤ 1099511627776) : CallV Try.prog 15 [.int .i64 f, .int .i64 (k : Int), .int .i64 (m : Int), .int .i64 (n : Int)] w fun v w' => v = .tuple #[.int .i64 ((lnS f k n : Nat) : Int), .int .i64 0] ∧ w' = w := by
  obtain ⟨hk, hk2, hm, hm2⟩ := prm_ok hp
  have hl := lnS_rng (f := f) (k := k) (n := n) (by omega) hn
  refine run_shape_Length (by simp) ?_
  simp only [c_shape_Length, WS, List.getElem_cons_zero, List.getElem_cons_succ, Option.isNone_some, Option.isNone_none, List.getD_cons_zero, List.getD_cons_succ, I.at, atL, atO, atP, evp, evs, retV, ↓reduceIte, Nat.reduceEqDiff, reduceCtorEq]
  refine X_call0 ((shape_Params_spec w f k m).mono ?_)
  rintro _ w' ⟨rfl, rfl⟩
  rw [hp]
  have e1 : ((n + k - 1 : Nat) : Int).tdiv (k : Int) = (((n + k - 1) / k : Nat) : Int) := tdiv_nat _ _
  have hk0 : ((k : Int) ≠ 0) = True := eq_true (by omega)
  have hdl : (n + k - 1) / k ≤ n + k := Nat.le_trans (Nat.div_le_self _ _) (by omega)
  simp (maxSteps := 1000000) (disch := omega) only [WS, List.getElem_cons_zero, List.getElem_cons_succ, Option.isNone_some, Option.isNone_none, List.getD_cons_zero, List.getD_cons_succ, I.at, atL, atO, atP, evp, evs, retV, ↓reduceIte, Nat.reduceEqDiff, reduceCtorEq, AS, show decide ((0 : Int) = 0) = true from rfl, X_quo, hk0, e1, w_nat]
  generalize hL : (n + k - 1) / k = L at *
  refine X_call0 ((shape_odd_spec w' f L).mono ?_)
  rintro _ w2 ⟨rfl, rfl⟩
  unfold oddB lnS
  rw [hL]
  by_cases ho : f = 2 ∧ L % 2 = 1
  · rw [decide_eq_true ho, if_pos ho]
    simp (maxSteps := 1000000) (disch := omega) only [WS, List.getElem_cons_zero, List.getElem_cons_succ, Option.isNone_some, Option.isNone_none, List.getD_cons_zero, List.getD_cons_succ, I.at, atL, atO, atP, evp, evs, retV, ↓reduceIte, Nat.reduceEqDiff, reduceCtorEq, AS]
  · rw [decide_eq_false ho, if_neg ho]
    simp (maxSteps := 1000000) (disch := omega) only [WS, List.getElem_cons_zero, List.getElem_cons_succ, Option.isNone_some, Option.isNone_none, List.getD_cons_zero, List.getD_cons_succ, I.at, atL, atO, atP, evp, evs, retV, ↓reduceIte, Nat.reduceEqDiff, reduceCtorEq, AS]
theorem culletref16_length_spec (w : World) (f : Int) (k n : Nat) (hk : 1 ≤ k) (hk2 : k ≤ 65536) (hn : 1 ≤ n) (hn2 : n ≤ 1099511627776) : CallV Try.prog 39 [.int .i64 f, .int .i64 (k : Int), .int .i64 (n : Int)] w fun v w' => v = .int .i64 ((lnS f k n : Nat) : Int) ∧ w' = w := by
  refine run_culletref16_length (by simp) ?_
  simp only [c_culletref16_length, WS, List.getElem_cons_zero, List.getElem_cons_succ, Option.isNone_some, Option.isNone_none, List.getD_cons_zero, List.getD_cons_succ, I.at, atL, atO, atP, evp, evs, retV, ↓reduceIte, Nat.reduceEqDiff, reduceCtorEq]
  have e1 : (n : Int).tdiv (k : Int) = ((n / k : Nat) : Int) := tdiv_nat _ _
  have e2 : (n : Int).tmod (k : Int) = ((n % k : Nat) : Int) := tmod_nat _ _
  have hk0 : ((k : Int) ≠ 0) = True := eq_true (by omega)
  have h20 : ((2 : Int) ≠ 0) = True := eq_true (by omega)
  have hdl : n / k ≤ n := Nat.div_le_self _ _
  have hc := ceil_div hk hn
  have e3 : ∀ L : Nat, (L : Int).tmod 2 = ((L % 2 : Nat) : Int) := fun L => tmod_nat L 2
  unfold lnS
  rw [hc]
  by_cases h0 : 0 < n % k
  · rw [if_pos h0]
    by_cases hf : f = 2
    · by_cases ho : (n / k + 1) % 2 = 1
      · rw [if_pos ⟨hf, ho⟩]
        simp (maxSteps := 1000000) (disch := omega) only [WS, List.getElem_cons_zero, List.getElem_cons_succ, Option.isNone_some, Option.isNone_none, List.getD_cons_zero, List.getD_cons_succ, I.at, atL, atO, atP, evp, evs, retV, ↓reduceIte, Nat.reduceEqDiff, reduceCtorEq, AS, X_quo, X_rem, hk0, h20, e1, e2, e3, w_nat, show decide (((1 : Nat) : Int) = 1) = true from rfl, ho]
      · have ho2 : (n / k + 1) % 2 = 0 := by omega
        rw [if_neg (fun h => ho h.2)]
        simp (maxSteps := 1000000) (disch := omega) only [WS, List.getElem_cons_zero, List.getElem_cons_succ, Option.isNone_some, Option.isNone_none, List.getD_cons_zero, List.getD_cons_succ, I.at, atL, atO, atP, evp, evs, retV, ↓reduceIte, Nat.reduceEqDiff, reduceCtorEq, AS, X_quo, X_rem, hk0, h20, e1, e2, e3, w_nat, ho2, show decide (((0 : Nat) : Int) = 1) = false from rfl]
    · rw [if_neg (fun h => hf h.1)]
      simp (maxSteps := 1000000) (disch := omega) only [WS, List.getElem_cons_zero, List.getElem_cons_succ, Option.isNone_some, Option.isNone_none, List.getD_cons_zero, List.getD_cons_succ, I.at, atL, atO, atP, evp, evs, retV, ↓reduceIte, Nat.reduceEqDiff, reduceCtorEq, AS, X_quo, X_rem, hk0, h20, e1, e2, e3, w_nat]
  · rw [if_neg h0, Nat.add_zero]
    by_cases hf : f = 2
    · by_cases ho : (n / k) % 2 = 1
      · rw [if_pos ⟨hf, ho⟩]
        simp (maxSteps := 1000000) (disch := omega) only [WS, List.getElem_cons_zero, List.getElem_cons_succ, Option.isNone_some, Option.isNone_none, List.getD_cons_zero, List.getD_cons_succ, I.at, atL, atO, atP, evp, evs, retV, ↓reduceIte, Nat.reduceEqDiff, reduceCtorEq, AS, X_quo, X_rem, hk0, h20, e1, e2, e3, w_nat, show decide (((1 : Nat) : Int) = 1) = true from rfl, ho]
      · have ho2 : (n / k) % 2 = 0 := by omega
        rw [if_neg (fun h => ho h.2)]
        simp (maxSteps := 1000000) (disch := omega) only [WS, List.getElem_cons_zero, List.getElem_cons_succ, Option.isNone_some, Option.isNone_none, List.getD_cons_zero, List.getD_cons_succ, I.at, atL, atO, atP, evp, evs, retV, ↓reduceIte, Nat.reduceEqDiff, reduceCtorEq, AS, X_quo, X_rem, hk0, h20, e1, e2, e3, w_nat, ho2, show decide (((0 : Nat) : Int) = 1) = false from rfl]
    · rw [if_neg (fun h => hf h.1)]
      simp (maxSteps := 1000000) (disch := omega) only [WS, List.getElem_cons_zero, List.getElem_cons_succ, Option.isNone_some, Option.isNone_none, List.getD_cons_zero, List.getD_cons_succ, I.at, atL, atO, atP, evp, evs, retV, ↓reduceIte, Nat.reduceEqDiff, reduceCtorEq, AS, X_quo, X_rem, hk0, h20, e1, e2, e3, w_nat]
theorem culletref16_Length_spec (w : World) (f : Int) (k m n : Nat) (hp : prm f k m = 0) (hn : 1 ≤ n) (hn2 : n ≤ 1099511627776) : CallV Try.prog 32 [.int .i64 f, .int .i64 (k : Int), .int .i64 (m : Int), .int .i64 (n : Int)] w fun v w' => v = .tuple #[.int .i64 ((lnS f k n : Nat) : Int), .int .i64 0] ∧ w' = w := by
  obtain ⟨hk, hk2, hm, hm2⟩ := prm_ok hp
  refine run_culletref16_Length (by simp) ?_
  simp only [c_culletref16_Length, WS, List.getElem_cons_zero, List.getElem_cons_succ, Option.isNone_some, Option.isNone_none, List.getD_cons_zero, List.getD_cons_succ, I.at, atL, atO, atP, evp, evs, retV, ↓reduceIte, Nat.reduceEqDiff, reduceCtorEq]
  refine X_call0 ((culletref16_Params_spec w f k m).mono ?_)
  rintro _ w' ⟨rfl, rfl⟩
  rw [hp]
  simp (maxSteps := 1000000) (disch := omega) only [WS, List.getElem_cons_zero, List.getElem_cons_succ, Option.isNone_some, Option.isNone_none, List.getD_cons_zero, List.getD_cons_succ, I.at, atL, atO, atP, evp, evs, retV, ↓reduceIte, Nat.reduceEqDiff, reduceCtorEq, AS, show decide ((0 : Int) = 0) = true from rfl]
  refine X_call0 ((culletref16_length_spec w' f k n (by omega) (by omega) hn hn2).mono ?_)
  rintro _ w2 ⟨rfl, rfl⟩
  simp (maxSteps := 1000000) (disch := omega) only [WS, List.getElem_cons_zero, List.getElem_cons_succ, Option.isNone_some, Option.isNone_none, List.getD_cons_zero, List.getD_cons_succ, I.at, atL, atO, atP, evp, evs, retV, ↓reduceIte, Nat.reduceEqDiff, reduceCtorEq, AS]
end Go.Proofs.Ytcbjabnnokjnpaa.Fw
