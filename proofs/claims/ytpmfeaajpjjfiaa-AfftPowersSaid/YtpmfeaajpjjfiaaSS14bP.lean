import Derived.Test.YtpmfeaajpjjfiaaProg
import Derived.Test.YtpmfeaajpjjfiaaFwTP
import Derived.Test.YtpmfeaajpjjfiaaGfPP
import Derived.Test.YtpmfeaajpjjfiaaFwVP
import Derived.Test.YtpmfeaajpjjfiaaGfSP
import Derived.Test.YtpmfeaajpjjfiaaSS14rP
import Derived.Test.YtpmfeaajpjjfiaaGfWP
set_option linter.all false
set_option linter.unusedVariables false
set_option linter.unusedSimpArgs false
set_option maxRecDepth 100000
set_option maxHeartbeats 1000000
namespace Go.Proofs.Ytpmfeaajpjjfiaa.Fw
open Go Go.Fw Go.Proofs
attribute [local irreducible] stepI
def c_polys_Over16 : C := .seq (.ops [⟨0, (some 0), none, .mov (.c (.pointer none)), []⟩]) (.seq (.ops [⟨0, (some 1), none, .bld [.nilFunc, .nilFunc] [(0, (1, .c (.func (.func 20) #[] #[]))), (1, (1, .c (.func (.func 48) #[] #[])))], []⟩, ⟨1, (some 2), none, .box 70 (.t 1), []⟩, ⟨2, (some 0), none, .mov (.t 2), []⟩]) .ret)
attribute [irreducible] c_polys_Over16
theorem run_polys_Over16 {args : List Value} {w : World} {K : Value → World → Prop} (hn : args.length ≤ 3) (h : WP Try.prog c_polys_Over16 (endQ [.t 0] K) (initT args) w) : CallV Try.prog 30 args w K :=
  call_of follows Try.func30 (by kernel_rfl) (by kernel_rfl) hn h
def c_polys_Ring_w_Eval : C := .seq (.ops [⟨0, (some 6), none, .mov (.c (.int .u16 0)), []⟩]) (.seq (.ops [⟨0, (some 7), none, .mov (.c (.int .u16 0)), []⟩]) (.seq (.seq (.ops [⟨0, (some 9), none, .mov (.t 0), []⟩, ⟨1, (some 10), none, .eqp false (.t 9) (.c (.pointer none)), []⟩]) (.ite (.t 10) (.seq (.ops [⟨0, (some 11), none, .mov (.t 7), []⟩, ⟨1, (some 6), none, .mov (.t 11), []⟩]) .ret) .skip)) (.seq (.seq (.ops [⟨0, (some 12), none, .mov (.t 1), []⟩, ⟨1, (some 13), none, .len (.t 12), []⟩, ⟨2, (some 14), none, .bin .sub (.t 13) (.c (.int .i64 1)), []⟩, ⟨3, (some 8), none, .mov (.t 14), []⟩]) (.block 0 (.loop (.seq (.seq (.ops [⟨0, (some 15), none, .mov (.t 8), []⟩, ⟨1, (some 16), none, .bin .geq (.t 15) (.c (.int .i64 0)), []⟩]) (.ite (.t 16) .skip (.exit 0))) (.seq (.block 1 (.dops [⟨0, (some 19), none, .mov (.t 0), []⟩, ⟨1, (some 20), none, .nil (.t 19), []⟩, ⟨2, (some 21), none, .fad 0 (.t 20), []⟩, ⟨3, (some 22), none, .ld (.t 21), []⟩, ⟨4, (some 23), none, .mov (.t 7), []⟩, ⟨5, (some 24), none, .mov (.t 2), []⟩, ⟨6, (some 25), none, .call (.t 22) [.t 23, .t 24], []⟩, ⟨7, (some 26), none, .mov (.t 1), []⟩, ⟨8, (some 27), none, .mov (.t 8), []⟩, ⟨9, (some 28), none, .ixs 1 (.t 26) (.t 27), []⟩, ⟨10, (some 29), none, .ld (.t 28), [6]⟩, ⟨11, (some 30), none, .bin .xor (.t 25) (.t 29), []⟩, ⟨12, (some 7), none, .mov (.t 30), []⟩])) (.ops [⟨0, (some 17), none, .mov (.t 8), []⟩, ⟨1, (some 18), none, .bin .sub (.t 17) (.c (.int .i64 1)), []⟩, ⟨2, (some 8), none, .mov (.t 18), []⟩])))))) (.seq (.ops [⟨0, (some 31), none, .mov (.t 7), []⟩, ⟨1, (some 6), none, .mov (.t 31), []⟩]) .ret))))
attribute [irreducible] c_polys_Ring_w_Eval
theorem run_polys_Ring_w_Eval {args : List Value} {w : World} {K : Value → World → Prop} (hn : args.length ≤ 32) (h : WP Try.prog c_polys_Ring_w_Eval (endQ [.t 6] K) (initT args) w) : CallV Try.prog 32 args w K :=
  call_of follows Try.func32 (by kernel_rfl) (by kernel_rfl) hn h
def c_polys_Ring_w_Mul : C := .seq (.ops [⟨0, (some 6), none, .mov (.c (.slice none 0 0)), []⟩, ⟨1, (some 7), none, .mov (.c (.int .i64 0)), []⟩]) (.seq (.seq (.ops [⟨0, (some 9), none, .mov (.t 0), []⟩, ⟨1, (some 10), none, .mov (.t 1), []⟩, ⟨2, (some 11), none, .mov (.t 2), []⟩, ⟨3, (some 12), none, .bsl 23 2 [.slice none 0 0] [(0, (1, .t 10)), (1, (1, .t 11))], []⟩, ⟨4, (some 13), none, .call (.c (.func (.func 78) #[] #[])) [.t 9, .t 12], []⟩, ⟨5, (some 8), none, .mov (.t 13), []⟩]) (.seq (.ops [⟨0, (some 14), none, .mov (.t 8), []⟩, ⟨1, (some 15), none, .bin .neq (.t 14) (.c (.int .i64 0)), []⟩]) (.ite (.t 15) (.seq (.ops [⟨0, (some 16), none, .mov (.t 8), []⟩, ⟨1, (some 6), none, .mov (.c (.slice none 0 0)), []⟩, ⟨2, (some 7), none, .mov (.t 16), []⟩]) .ret) .skip))) (.seq (.ops [⟨0, (some 17), none, .mov (.t 0), []⟩, ⟨1, (some 18), none, .mov (.t 1), []⟩, ⟨2, (some 19), none, .mov (.t 2), []⟩, ⟨3, (some 20), none, .call (.c (.func (.func 79) #[] #[])) [.t 17, .t 18, .t 19], []⟩, ⟨4, (some 6), none, .mov (.t 20), []⟩, ⟨5, (some 7), none, .mov (.c (.int .i64 0)), []⟩]) .ret))
attribute [irreducible] c_polys_Ring_w_Mul
theorem run_polys_Ring_w_Mul {args : List Value} {w : World} {K : Value → World → Prop} (hn : args.length ≤ 21) (h : WP Try.prog c_polys_Ring_w_Mul (endQ [.t 6, .t 7] K) (initT args) w) : CallV Try.prog 67 args w K :=
  call_of follows Try.func67 (by kernel_rfl) (by kernel_rfl) hn h
def c_polys_Ring_w_refuses : C := .seq (.ops [⟨0, (some 4), none, .mov (.c (.int .i64 0)), []⟩]) (.seq (.seq (.ops [⟨0, (some 7), none, .mov (.t 0), []⟩, ⟨1, (some 8), none, .eqp false (.t 7) (.c (.pointer none)), []⟩]) (.ite (.t 8) (.seq (.ops [⟨0, (some 4), none, .mov (.c (.int .i64 1)), []⟩]) .ret) .skip)) (.seq (.seq (.ops [⟨0, (some 9), none, .mov (.t 1), []⟩, ⟨1, (some 10), none, .len (.t 9), []⟩, ⟨2, (some 11), none, .mov (.c (.int .i64 0)), []⟩]) (.block 0 (.loop (.seq (.ops [⟨0, (some 12), none, .bin .lss (.t 11) (.t 10), []⟩]) (.seq (.ite (.t 12) .skip (.exit 0)) (.seq (.block 1 (.seq (.ops [⟨0, (some 13), none, .ixs 1 (.t 9) (.t 11), []⟩, ⟨1, (some 14), none, .ld (.t 13), []⟩, ⟨2, (some 6), none, .mov (.t 14), []⟩]) (.seq (.ops [⟨0, (some 15), none, .mov (.t 6), []⟩, ⟨1, (some 16), none, .len (.t 15), []⟩, ⟨2, (some 17), none, .bin .gtr (.t 16) (.c (.int .i64 1024)), []⟩]) (.ite (.t 17) (.seq (.ops [⟨0, (some 4), none, .mov (.c (.int .i64 5)), []⟩]) .ret) .skip)))) (.ops [⟨0, (some 18), none, .bin .add (.t 11) (.c (.int .i64 1)), []⟩, ⟨1, (some 11), none, .mov (.t 18), []⟩]))))))) (.seq (.ops [⟨0, (some 4), none, .mov (.c (.int .i64 0)), []⟩]) .ret)))
attribute [irreducible] c_polys_Ring_w_refuses
theorem run_polys_Ring_w_refuses {args : List Value} {w : World} {K : Value → World → Prop} (hn : args.length ≤ 19) (h : WP Try.prog c_polys_Ring_w_refuses (endQ [.t 4] K) (initT args) w) : CallV Try.prog 78 args w K :=
  call_of follows Try.func78 (by kernel_rfl) (by kernel_rfl) hn h
def c_polys_Ring_w_product : C := .seq (.ops [⟨0, (some 6), none, .mov (.c (.slice none 0 0)), []⟩]) (.seq (.dops [⟨0, (some 12), none, .mov (.t 1), []⟩, ⟨1, (some 13), none, .mov (.t 1), []⟩, ⟨2, (some 14), none, .call (.c (.func (.func 82) #[] #[])) [.t 13], []⟩, ⟨3, (some 15), none, .bin .add (.t 14) (.c (.int .i64 1)), []⟩, ⟨4, (some 16), none, .slc 1 (.t 12) none (some (.t 15)) none, []⟩, ⟨5, (some 17), none, .mov (.t 2), []⟩, ⟨6, (some 18), none, .mov (.t 2), []⟩, ⟨7, (some 19), none, .call (.c (.func (.func 82) #[] #[])) [.t 18], []⟩, ⟨8, (some 20), none, .bin .add (.t 19) (.c (.int .i64 1)), []⟩, ⟨9, (some 21), none, .slc 1 (.t 17) none (some (.t 20)) none, []⟩, ⟨10, (some 1), none, .mov (.t 16), []⟩, ⟨11, (some 2), none, .mov (.t 21), []⟩]) (.seq (.seq (.ops [⟨0, (some 22), none, .mov (.t 1), []⟩, ⟨1, (some 23), none, .len (.t 22), []⟩, ⟨2, (some 24), none, .bin .eql (.t 23) (.c (.int .i64 0)), []⟩, ⟨3, (some 25), none, .mov (.t 24), []⟩, ⟨4, (some 26), (some (25, false)), .mov (.t 2), []⟩, ⟨5, (some 27), (some (25, false)), .len (.t 26), []⟩, ⟨6, (some 28), (some (25, false)), .bin .eql (.t 27) (.c (.int .i64 0)), []⟩, ⟨7, (some 29), none, .pick (.t 25) (.c (.bool true)) (.t 28), []⟩]) (.ite (.t 29) (.seq (.ops [⟨0, (some 6), none, .mov (.c (.slice none 0 0)), []⟩]) .ret) .skip)) (.seq (.ops [⟨0, (some 30), none, .mov (.t 1), []⟩, ⟨1, (some 31), none, .len (.t 30), []⟩, ⟨2, (some 32), none, .mov (.t 2), []⟩, ⟨3, (some 33), none, .len (.t 32), []⟩, ⟨4, (some 34), none, .bin .add (.t 31) (.t 33), []⟩, ⟨5, (some 35), none, .bin .sub (.t 34) (.c (.int .i64 1)), []⟩, ⟨6, (some 36), none, .mks 31 2 [.int .u16 0] (.t 35) (.t 35), []⟩, ⟨7, (some 7), none, .mov (.t 36), []⟩]) (.seq (.seq (.ops [⟨0, (some 37), none, .mov (.t 1), []⟩, ⟨1, (some 38), none, .len (.t 37), []⟩, ⟨2, (some 39), none, .mov (.c (.int .i64 0)), []⟩]) (.block 0 (.loop (.seq (.ops [⟨0, (some 40), none, .bin .lss (.t 39) (.t 38), []⟩]) (.seq (.ite (.t 40) .skip (.exit 0)) (.seq (.block 1 (.seq (.ops [⟨0, (some 41), none, .mov (.t 39), []⟩, ⟨1, (some 42), none, .ixs 1 (.t 37) (.t 39), []⟩, ⟨2, (some 43), none, .ld (.t 42), []⟩, ⟨3, (some 8), none, .mov (.t 41), []⟩, ⟨4, (some 9), none, .mov (.t 43), []⟩]) (.seq (.seq (.ops [⟨0, (some 44), none, .mov (.t 9), []⟩, ⟨1, (some 45), none, .bin .eql (.t 44) (.c (.int .u16 0)), []⟩]) (.ite (.t 45) (.exit 1) .skip)) (.seq (.ops [⟨0, (some 46), none, .mov (.t 2), []⟩, ⟨1, (some 47), none, .len (.t 46), []⟩, ⟨2, (some 48), none, .mov (.c (.int .i64 0)), []⟩]) (.block 2 (.loop (.seq (.ops [⟨0, (some 49), none, .bin .lss (.t 48) (.t 47), []⟩]) (.seq (.ite (.t 49) .skip (.exit 2)) (.seq (.block 3 (.seq (.ops [⟨0, (some 50), none, .mov (.t 48), []⟩, ⟨1, (some 51), none, .ixs 1 (.t 46) (.t 48), []⟩, ⟨2, (some 52), none, .ld (.t 51), []⟩, ⟨3, (some 10), none, .mov (.t 50), []⟩, ⟨4, (some 11), none, .mov (.t 52), []⟩]) (.dops [⟨0, (some 53), none, .mov (.t 7), []⟩, ⟨1, (some 54), none, .mov (.t 8), []⟩, ⟨2, (some 55), none, .mov (.t 10), []⟩, ⟨3, (some 56), none, .bin .add (.t 54) (.t 55), []⟩, ⟨4, (some 57), none, .ixs 1 (.t 53) (.t 56), []⟩, ⟨5, (some 58), none, .ld (.t 57), []⟩, ⟨6, (some 59), none, .mov (.t 0), []⟩, ⟨7, (some 60), none, .nil (.t 59), []⟩, ⟨8, (some 61), none, .fad 0 (.t 60), []⟩, ⟨9, (some 62), none, .ld (.t 61), []⟩, ⟨10, (some 63), none, .mov (.t 9), []⟩, ⟨11, (some 64), none, .mov (.t 11), []⟩, ⟨12, (some 65), none, .call (.t 62) [.t 63, .t 64], [5]⟩, ⟨13, (some 66), none, .bin .xor (.t 58) (.t 65), []⟩, ⟨14, (some 67), none, .ixs 1 (.t 53) (.t 56), []⟩, ⟨15, none, none, .st (.t 67) (.t 66), []⟩]))) (.ops [⟨0, (some 68), none, .bin .add (.t 48) (.c (.int .i64 1)), []⟩, ⟨1, (some 48), none, .mov (.t 68), []⟩])))))))))) (.ops [⟨0, (some 69), none, .bin .add (.t 39) (.c (.int .i64 1)), []⟩, ⟨1, (some 39), none, .mov (.t 69), []⟩]))))))) (.seq (.ops [⟨0, (some 70), none, .mov (.t 7), []⟩, ⟨1, (some 6), none, .mov (.t 70), []⟩]) .ret)))))
attribute [irreducible] c_polys_Ring_w_product
theorem run_polys_Ring_w_product {args : List Value} {w : World} {K : Value → World → Prop} (hn : args.length ≤ 71) (h : WP Try.prog c_polys_Ring_w_product (endQ [.t 6] K) (initT args) w) : CallV Try.prog 79 args w K :=
  call_of follows Try.func79 (by kernel_rfl) (by kernel_rfl) hn h
def c_polys_degree_w : C := .seq (.ops [⟨0, (some 2), none, .mov (.c (.int .i64 0)), []⟩]) (.seq (.ops [⟨0, (some 4), none, .mov (.t 0), []⟩, ⟨1, (some 5), none, .len (.t 4), []⟩, ⟨2, (some 6), none, .bin .sub (.t 5) (.c (.int .i64 1)), []⟩, ⟨3, (some 3), none, .mov (.t 6), []⟩]) (.seq (.block 0 (.loop (.seq (.seq (.ops [⟨0, (some 7), none, .mov (.t 3), []⟩, ⟨1, (some 8), none, .bin .geq (.t 7) (.c (.int .i64 0)), []⟩, ⟨2, (some 9), none, .mov (.t 8), []⟩, ⟨3, (some 10), (some (9, true)), .mov (.t 0), []⟩, ⟨4, (some 11), (some (9, true)), .mov (.t 3), []⟩, ⟨5, (some 12), (some (9, true)), .ixs 1 (.t 10) (.t 11), []⟩, ⟨6, (some 13), (some (9, true)), .ld (.t 12), []⟩, ⟨7, (some 14), (some (9, true)), .bin .eql (.t 13) (.c (.int .u16 0)), []⟩, ⟨8, (some 15), none, .pick (.t 9) (.t 14) (.c (.bool false)), []⟩]) (.ite (.t 15) .skip (.exit 0))) (.block 1 (.ops [⟨0, (some 16), none, .mov (.t 3), []⟩, ⟨1, (some 17), none, .bin .sub (.t 16) (.c (.int .i64 1)), []⟩, ⟨2, (some 3), none, .mov (.t 17), []⟩]))))) (.seq (.ops [⟨0, (some 18), none, .mov (.t 3), []⟩, ⟨1, (some 2), none, .mov (.t 18), []⟩]) .ret)))
attribute [irreducible] c_polys_degree_w
theorem run_polys_degree_w {args : List Value} {w : World} {K : Value → World → Prop} (hn : args.length ≤ 19) (h : WP Try.prog c_polys_degree_w (endQ [.t 2] K) (initT args) w) : CallV Try.prog 82 args w K :=
  call_of follows Try.func82 (by kernel_rfl) (by kernel_rfl) hn h
end Go.Proofs.Ytpmfeaajpjjfiaa.Fw
namespace Go.Proofs.Ytpmfeaajpjjfiaa.Fw
open Go Go.Fw
/-- The ring's two functions. -/
def Mul_w (w : World) (v : Value) : Prop := v = .func (.func 20) #[] #[]
def Inv_w (w : World) (v : Value) : Prop := v = .func (.func 48) #[] #[]
def Ring_w (w : World) (r : Value) : Prop := ∃ b mv iv, r = .pointer (some ⟨b, 0, none⟩) ∧ Row w b [mv, iv] ∧ Mul_w w mv ∧ Inv_w w iv
theorem Ring_w.up {w w' : World} {r : Value} (h : Ring_w w r) (hb : RowKit.Below w.heap.size w w') : Ring_w w' r := by
  obtain ⟨b, mv, iv, h1, h2, h3, h4⟩ := h
  exact ⟨b, mv, iv, h1, h2.up hb, h3, h4⟩
theorem Ring_w.drew {w : World} {r : Value} (h : Ring_w w r) : Ring_w w.drew r := h.up (bel_drew w)
theorem Mul_w.call {w : World} {v : Value} (h : Mul_w w v) (x y : El 16) {K : Value → World → Prop} (hk : ∀ w', Like w w' → K (.int .u16 ((x * y).v.toNat : Int)) w') : callK Try.prog v [.int .u16 (x.v.toNat : Int), .int .u16 (y.v.toNat : Int)] w K := by
  obtain rfl := h
  refine (gf16_Mul_spec w x y).mono ?_
  rintro _ _ ⟨rfl, rfl⟩
  exact hk _ (Like.refl _)
theorem polys_Over16_spec (w : World) : CallV Try.prog 30 [] w fun v w' => Ring_w w' v ∧ RowKit.Below w.heap.size w w' ∧ ∀ w2, Stays w w' w2 → Ring_w w2 v := by
  refine run_polys_Over16 (by simp) ?_
  simp only [c_polys_Over16, WS, List.getElem_cons_zero, List.getElem_cons_succ, Option.isNone_some, Option.isNone_none, List.getD_cons_zero, List.getD_cons_succ, I.at, atL, atO, atP, evp, evs, retV, ↓reduceIte, Nat.reduceEqDiff, reduceCtorEq, X_bld]
  refine X_box ?_
  intro b w' hr hb hB
  simp only [WS, List.getElem_cons_zero, List.getElem_cons_succ, Option.isNone_some, Option.isNone_none, List.getD_cons_zero, List.getD_cons_succ, I.at, atL, atO, atP, evp, evs, retV, ↓reduceIte, Nat.reduceEqDiff, reduceCtorEq]
  exact ⟨⟨b, _, _, rfl, hr, rfl, rfl⟩, hB, fun w2 hs => ⟨b, _, _, rfl, hr.stays hb hs, rfl, rfl⟩⟩
end Go.Proofs.Ytpmfeaajpjjfiaa.Fw

namespace Go.Proofs.Ytpmfeaajpjjfiaa.Fw
open Go Go.Fw
theorem polys_degree_w_spec (w : World) (s : Value) (l : List (El 16)) (h : Sl w s l) (hb : l.length ≤ 70368744175616) : CallV Try.prog 82 [s] w fun v w' => v = .int .i64 ((tln l : Int) - 1) ∧ w' = w := by
  refine run_polys_degree_w (by simp) ?_
  simp only [c_polys_degree_w, WS, List.getElem_cons_zero, List.getElem_cons_succ, Option.isNone_some, Option.isNone_none, List.getD_cons_zero, List.getD_cons_succ, I.at, atL, atO, atP, evp, evs, retV, ↓reduceIte, Nat.reduceEqDiff, reduceCtorEq, h.Xlen, wrap_id (show -9223372036854775808 ≤ (l.length : Int) - 1 by omega) (show (l.length : Int) - 1 < 9223372036854775808 by omega)]
  have hle := tln_le l
  refine loop_of (fun t w' => w' = w ∧ t 0 = s ∧ ∃ k : Nat, t 3 = .int .i64 ((k : Int) - 1) ∧ tln l ≤ k ∧ k ≤ l.length) (fun t _ => (toI (t 3) + 1).toNat) ⟨rfl, rfl, l.length, rfl, hle, Nat.le_refl _⟩ ?_
  rintro t w' ⟨rfl, h0, k, h3, hk1, hk2⟩
  rcases Nat.eq_zero_or_pos k with rfl | hp
  · have : tln l = 0 := by omega
    simp only [WS, List.getElem_cons_zero, List.getElem_cons_succ, Option.isNone_some, Option.isNone_none, List.getD_cons_zero, List.getD_cons_succ, I.at, atL, atO, atP, evp, evs, retV, ↓reduceIte, Nat.reduceEqDiff, reduceCtorEq, h0, h3, show decide ((0 : Int) ≤ ((0 : Nat) : Int) - 1) = false from rfl, this]
  · obtain ⟨k, rfl⟩ : ∃ j, k = j + 1 := ⟨k - 1, by omega⟩
    have e1 : ((k + 1 : Nat) : Int) - 1 = (k : Int) := by omega
    rw [e1] at h3
    have hkl : k < l.length := by omega
    by_cases hz : l[k] = 0
    · have d1 : decide (((l[k]).v.toNat : Int) = 0) = true := decide_eq_true ((el_zero _).mpr hz)
      simp only [WS, List.getElem_cons_zero, List.getElem_cons_succ, Option.isNone_some, Option.isNone_none, List.getD_cons_zero, List.getD_cons_succ, I.at, atL, atO, atP, evp, evs, retV, ↓reduceIte, Nat.reduceEqDiff, reduceCtorEq, h0, h3, show decide ((0 : Int) ≤ (k : Int)) = true by simp, h.Xix hkl, h.Xld hkl, cell_e16, d1, wrap_id (show -9223372036854775808 ≤ (k : Int) - 1 by omega) (show (k : Int) - 1 < 9223372036854775808 by omega), toI_int]
      refine ⟨⟨k, rfl, ?_, by omega⟩, by omega⟩
      rcases Nat.lt_or_ge k (tln l) with h1 | h1
      · exfalso
        refine tln_top l k (by omega) ?_
        rw [co_get l hkl]; exact hz
      · exact h1
    · have d1 : decide (((l[k]).v.toNat : Int) = 0) = false := decide_eq_false (fun e => hz ((el_zero _).mp e))
      have : tln l = k + 1 := by
        rcases Nat.lt_or_ge (tln l) (k + 1) with h1 | h1
        · exfalso
          have := tln_dg l k (by omega)
          rw [co_get l hkl] at this
          exact hz this
        · omega
      simp only [WS, List.getElem_cons_zero, List.getElem_cons_succ, Option.isNone_some, Option.isNone_none, List.getD_cons_zero, List.getD_cons_succ, I.at, atL, atO, atP, evp, evs, retV, ↓reduceIte, Nat.reduceEqDiff, reduceCtorEq, h0, h3, show decide ((0 : Int) ≤ (k : Int)) = true by simp, h.Xix hkl, h.Xld hkl, cell_e16, d1, this]
      simp only [WS, List.getElem_cons_zero, List.getElem_cons_succ, Option.isNone_some, Option.isNone_none, List.getD_cons_zero, List.getD_cons_succ, I.at, atL, atO, atP, evp, evs, retV, ↓reduceIte, Nat.reduceEqDiff, reduceCtorEq, e1]
end Go.Proofs.Ytpmfeaajpjjfiaa.Fw

namespace Go.Proofs.Ytpmfeaajpjjfiaa.Fw
open Go Go.Fw
theorem polys_Ring_w_product_spec (w : World) (r s1 s2 : Value) (l1 l2 : List (El 16)) (hr : Ring_w w r) (h1 : Sl w s1 l1) (h2 : Sl w s2 l2) (hb1 : l1.length ≤ 70368744175616) (hb2 : l2.length ≤ 70368744175616) :
    CallV Try.prog 79 [r, s1, s2] w fun v w' => ∃ l, Ow w.heap.size w' v l ∧ tr l = l ∧ co l = co l1 * co l2 ∧ l.length ≤ l1.length + l2.length ∧ RowKit.Below w.heap.size w w' := by
  have hle1 := tln_le l1
  have hle2 := tln_le l2
  refine run_polys_Ring_w_product (by simp) ?_
  simp only [c_polys_Ring_w_product, WS, List.getElem_cons_zero, List.getElem_cons_succ, Option.isNone_some, Option.isNone_none, List.getD_cons_zero, List.getD_cons_succ, I.at, atL, atO, atP, evp, evs, retV, ↓reduceIte, Nat.reduceEqDiff, reduceCtorEq]
  refine WP_dops ?_
  simp only [ES, List.mem_cons, List.not_mem_nil, implies_true, forall_const, WS, List.getElem_cons_zero, List.getElem_cons_succ, Option.isNone_some, Option.isNone_none, List.getD_cons_zero, List.getD_cons_succ, I.at, atL, atO, atP, evp, evs, retV, ↓reduceIte, Nat.reduceEqDiff, reduceCtorEq]
  refine E_call0 ((polys_degree_w_spec w.drew s1 l1 h1.drew hb1).mono ?_)
  rintro v w' ⟨rfl, rfl⟩
  have e1 : IntKind.i64.wrap ((tln l1 : Int) - 1 + 1) = (tln l1 : Int) := by rw [wrap_id (by omega) (by omega)]; omega
  have e2 : IntKind.i64.wrap ((tln l2 : Int) - 1 + 1) = (tln l2 : Int) := by rw [wrap_id (by omega) (by omega)]; omega
  simp only [ES, List.mem_cons, List.not_mem_nil, implies_true, forall_const, WS, List.getElem_cons_zero, List.getElem_cons_succ, Option.isNone_some, Option.isNone_none, List.getD_cons_zero, List.getD_cons_succ, I.at, atL, atO, atP, evp, evs, retV, ↓reduceIte, Nat.reduceEqDiff, reduceCtorEq, e1, h1.drew.EslcHi hle1]
  refine E_call0 ((polys_degree_w_spec w.drew s2 l2 h2.drew hb2).mono ?_)
  rintro v w' ⟨rfl, rfl⟩
  have g1 : Sl w.drew (Fw.sub s1 0 (tln l1)) (tr l1) := h1.drew.sub (Nat.zero_le _) hle1
  have g2 : Sl w.drew (Fw.sub s2 0 (tln l2)) (tr l2) := h2.drew.sub (Nat.zero_le _) hle2
  simp only [ES, List.mem_cons, List.not_mem_nil, implies_true, forall_const, WS, List.getElem_cons_zero, List.getElem_cons_succ, Option.isNone_some, Option.isNone_none, List.getD_cons_zero, List.getD_cons_succ, I.at, atL, atO, atP, evp, evs, retV, ↓reduceIte, Nat.reduceEqDiff, reduceCtorEq, e2, h2.drew.EslcHi hle2, g1.Xlen, g2.Xlen, tr_len]
  by_cases hz : tln l1 = 0 ∨ tln l2 = 0
  · have hco : (0 : Ps 16) = co l1 * co l2 := by
      rcases hz with hz | hz
      · rw [co_zero_of_tln hz, Ps.zero_mul]
      · rw [co_zero_of_tln hz, Ps.mul_zero]
    have fin : ∃ l : List (El 16), Ow w.heap.size w.drew (.slice none 0 0) l ∧ tr l = l ∧ co l = co l1 * co l2 ∧ l.length ≤ l1.length + l2.length ∧ RowKit.Below w.heap.size w w.drew :=
      ⟨[], Ow.nil _ _, rfl, hco, by simp, bel_drew w⟩
    by_cases hz1 : tln l1 = 0
    · simp only [WS, List.getElem_cons_zero, List.getElem_cons_succ, Option.isNone_some, Option.isNone_none, List.getD_cons_zero, List.getD_cons_succ, I.at, atL, atO, atP, evp, evs, retV, ↓reduceIte, Nat.reduceEqDiff, reduceCtorEq, hz1, show decide (((0 : Nat) : Int) = 0) = true from rfl]
      exact fin
    · have hz2 : tln l2 = 0 := by omega
      simp only [WS, List.getElem_cons_zero, List.getElem_cons_succ, Option.isNone_some, Option.isNone_none, List.getD_cons_zero, List.getD_cons_succ, I.at, atL, atO, atP, evp, evs, retV, ↓reduceIte, Nat.reduceEqDiff, reduceCtorEq, hz2, show decide ((tln l1 : Int) = 0) = false from decide_eq_false (by omega), show decide (((0 : Nat) : Int) = 0) = true from rfl]
      exact fin
  have n1 : 0 < tln l1 := by omega
  have n2 : 0 < tln l2 := by omega
  have e3 : IntKind.i64.wrap ((tln l1 : Int) + (tln l2 : Int)) = ((tln l1 + tln l2 : Nat) : Int) := by rw [wrap_id (by omega) (by omega)]; omega
  have e4 : IntKind.i64.wrap (((tln l1 + tln l2 : Nat) : Int) - 1) = ((tln l1 + tln l2 - 1 : Nat) : Int) := by rw [wrap_id (by omega) (by omega)]; omega
  simp only [WS, List.getElem_cons_zero, List.getElem_cons_succ, Option.isNone_some, Option.isNone_none, List.getD_cons_zero, List.getD_cons_succ, I.at, atL, atO, atP, evp, evs, retV, ↓reduceIte, Nat.reduceEqDiff, reduceCtorEq, show decide ((tln l1 : Int) = 0) = false from decide_eq_false (by omega), show decide ((tln l2 : Int) = 0) = false from decide_eq_false (by omega), g1.Xlen, g2.Xlen, tr_len, e3, e4]
  refine X_mks (x := (0 : El 16)) ?_ ?_ fun p w1 ho hB => ?_
  · simp only [maxBytes]; omega
  · omega
  simp only [WS, List.getElem_cons_zero, List.getElem_cons_succ, Option.isNone_some, Option.isNone_none, List.getD_cons_zero, List.getD_cons_succ, I.at, atL, atO, atP, evp, evs, retV, ↓reduceIte, Nat.reduceEqDiff, reduceCtorEq, g1.Xlen, tr_len]
  have hB : RowKit.Below w.heap.size w w1 := (bel_drew w).trans hB
  obtain ⟨b, mv, iv, rfl, hrow, hm, -⟩ := id hr
  have h0b : b < w.heap.size := row_lt hrow
  refine loop_of (fun t w2 => t 0 = .pointer (some ⟨b, 0, none⟩) ∧ t 2 = Fw.sub s2 0 (tln l2) ∧ t 7 = p ∧ t 37 = Fw.sub s1 0 (tln l1) ∧ t 38 = .int .i64 (tln l1 : Int) ∧ RowKit.Below w.heap.size w w2 ∧ ∃ (i : Nat) (ls : List (El 16)), t 39 = .int .i64 (i : Int) ∧ i ≤ tln l1 ∧
      Ow w.heap.size w2 p ls ∧ ls.length = tln l1 + tln l2 - 1 ∧ co ls = co ((tr l1).take i) * co (tr l2))
    (fun t _ => tln l1 - (toI (t 39)).toNat) ⟨rfl, rfl, rfl, rfl, rfl, hB, 0, _, rfl, by omega, ho, by simp, by rw [List.take_zero, co_nil, Ps.zero_mul, co_replicate]⟩ ?_
  clear ho hB
  rintro t w2 ⟨t0, t2, t7, t37, t38, hB, i, ls, t39, hi, ho, hll, hc⟩
  by_cases hlt : i < tln l1
  · have hlt1 : i < (tr l1).length := by rw [tr_len]; exact hlt
    have hlt1' : i < l1.length := by omega
    have g1 : Sl w2 (Fw.sub s1 0 (tln l1)) (tr l1) := (h1.up hB).sub (Nat.zero_le _) hle1
    have g2 : Sl w2 (Fw.sub s2 0 (tln l2)) (tr l2) := (h2.up hB).sub (Nat.zero_le _) hle2
    have wi : IntKind.i64.wrap ((i : Int) + 1) = ((i + 1 : Nat) : Int) := by rw [wrap_id (by omega) (by omega)]; omega
    by_cases hx : (tr l1)[i] = 0
    · have d1 : decide ((((tr l1)[i]).v.toNat : Int) = 0) = true := decide_eq_true ((el_zero _).mpr hx)
      simp only [WS, List.getElem_cons_zero, List.getElem_cons_succ, Option.isNone_some, Option.isNone_none, List.getD_cons_zero, List.getD_cons_succ, I.at, atL, atO, atP, evp, evs, retV, ↓reduceIte, Nat.reduceEqDiff, reduceCtorEq, t0, t2, t7, t37, t38, t39, show decide ((i : Int) < (tln l1 : Int)) = true from decide_eq_true (by omega), g1.Xix hlt1, g1.Xld hlt1, cell_e16, d1, wi, toI_int]
      refine ⟨⟨hB, i + 1, ls, rfl, by omega, ho, hll, ?_⟩, by omega⟩
      rw [hc, co_take_succ _ hlt1, hx, mono_zero, Ps.add_zero]
    · have d1 : decide ((((tr l1)[i]).v.toNat : Int) = 0) = false := decide_eq_false (fun e => hx ((el_zero _).mp e))
      simp only [WS, List.getElem_cons_zero, List.getElem_cons_succ, Option.isNone_some, Option.isNone_none, List.getD_cons_zero, List.getD_cons_succ, I.at, atL, atO, atP, evp, evs, retV, ↓reduceIte, Nat.reduceEqDiff, reduceCtorEq, t0, t2, t7, t37, t38, t39, show decide ((i : Int) < (tln l1 : Int)) = true from decide_eq_true (by omega), g1.Xix hlt1, g1.Xld hlt1, cell_e16, d1, g2.Xlen, tr_len]
      refine loop_of (fun t w2 => t 0 = .pointer (some ⟨b, 0, none⟩) ∧ t 2 = Fw.sub s2 0 (tln l2) ∧ t 7 = p ∧ t 8 = .int .i64 (i : Int) ∧ t 9 = .int .u16 (((tr l1)[i]).v.toNat : Int) ∧ t 37 = Fw.sub s1 0 (tln l1) ∧ t 38 = .int .i64 (tln l1 : Int) ∧ t 39 = .int .i64 (i : Int) ∧
          t 46 = Fw.sub s2 0 (tln l2) ∧ t 47 = .int .i64 (tln l2 : Int) ∧ RowKit.Below w.heap.size w w2 ∧ ∃ (j : Nat) (ls : List (El 16)), t 48 = .int .i64 (j : Int) ∧ j ≤ tln l2 ∧
          Ow w.heap.size w2 p ls ∧ ls.length = tln l1 + tln l2 - 1 ∧ ∀ k, (co ls).c k = (co ((tr l1).take i) * co (tr l2)).c k + (if i ≤ k ∧ k < i + j then (tr l1)[i] * (co (tr l2)).c (k - i) else 0))
        (fun t _ => tln l2 - (toI (t 48)).toNat) ⟨by simp only [WS, List.getElem_cons_zero, List.getElem_cons_succ, Option.isNone_some, Option.isNone_none, List.getD_cons_zero, List.getD_cons_succ, I.at, atL, atO, atP, evp, evs, retV, ↓reduceIte, Nat.reduceEqDiff, reduceCtorEq, t0], by simp only [WS, List.getElem_cons_zero, List.getElem_cons_succ, Option.isNone_some, Option.isNone_none, List.getD_cons_zero, List.getD_cons_succ, I.at, atL, atO, atP, evp, evs, retV, ↓reduceIte, Nat.reduceEqDiff, reduceCtorEq, t2], by simp only [WS, List.getElem_cons_zero, List.getElem_cons_succ, Option.isNone_some, Option.isNone_none, List.getD_cons_zero, List.getD_cons_succ, I.at, atL, atO, atP, evp, evs, retV, ↓reduceIte, Nat.reduceEqDiff, reduceCtorEq, t7], rfl, rfl, by simp only [WS, List.getElem_cons_zero, List.getElem_cons_succ, Option.isNone_some, Option.isNone_none, List.getD_cons_zero, List.getD_cons_succ, I.at, atL, atO, atP, evp, evs, retV, ↓reduceIte, Nat.reduceEqDiff, reduceCtorEq, t37], by simp only [WS, List.getElem_cons_zero, List.getElem_cons_succ, Option.isNone_some, Option.isNone_none, List.getD_cons_zero, List.getD_cons_succ, I.at, atL, atO, atP, evp, evs, retV, ↓reduceIte, Nat.reduceEqDiff, reduceCtorEq, t38], by simp only [WS, List.getElem_cons_zero, List.getElem_cons_succ, Option.isNone_some, Option.isNone_none, List.getD_cons_zero, List.getD_cons_succ, I.at, atL, atO, atP, evp, evs, retV, ↓reduceIte, Nat.reduceEqDiff, reduceCtorEq, t39], rfl, rfl, hB, 0, ls, rfl, by omega, ho, hll, fun k => by rw [hc, if_neg (by omega), El.add_zero]⟩ ?_
      clear ho hc hll hB t0 t2 t7 t37 t38 t39 g1 g2
      rintro t w3 ⟨t0, t2, t7, t8, t9, t37, t38, t39, t46, t47, hB, j, ls, t48, hj, ho, hll, hc⟩
      have g2 : Sl w3 (Fw.sub s2 0 (tln l2)) (tr l2) := (h2.up hB).sub (Nat.zero_le _) hle2
      by_cases hjl : j < tln l2
      · have hjl2 : j < (tr l2).length := by rw [tr_len]; exact hjl
        have hij : i + j < ls.length := by omega
        have wij : IntKind.i64.wrap ((i : Int) + (j : Int)) = ((i + j : Nat) : Int) := by rw [wrap_id (by omega) (by omega)]; omega
        have wj : IntKind.i64.wrap ((j : Int) + 1) = ((j + 1 : Nat) : Int) := by rw [wrap_id (by omega) (by omega)]; omega
        obtain ⟨b', mv', iv', hbe, hrow', hm', -⟩ := hr.up hB
        cases hbe
        simp only [WS, List.getElem_cons_zero, List.getElem_cons_succ, Option.isNone_some, Option.isNone_none, List.getD_cons_zero, List.getD_cons_succ, I.at, atL, atO, atP, evp, evs, retV, ↓reduceIte, Nat.reduceEqDiff, reduceCtorEq, t0, t2, t7, t8, t9, t37, t38, t39, t46, t47, t48, show decide ((j : Int) < (tln l2 : Int)) = true from decide_eq_true (by omega), g2.Xix hjl2, g2.Xld hjl2, cell_e16]
        refine WP_dops ?_
        have hos := ho.sl.drew
        simp only [ES, List.mem_cons, List.not_mem_nil, implies_true, forall_const, WS, List.getElem_cons_zero, List.getElem_cons_succ, Option.isNone_some, Option.isNone_none, List.getD_cons_zero, List.getD_cons_succ, I.at, atL, atO, atP, evp, evs, retV, ↓reduceIte, Nat.reduceEqDiff, reduceCtorEq, t0, t7, t8, t9, wij, hos.Eix hij, hos.Eld hij, addr_add0, Nat.add_zero, hrow'.drew.Eld (show 0 < [mv', iv'].length by simp), cell_e16]
        refine E_callK (Mul_w.call (w := w3.drew) hm' _ _ fun w4 hl => ?_)
        have hsee := (hl.sl hos).sees hij Try.prog
        rw [cell_e16] at hsee
        have hos4 := hl.sl hos
        simp only [ES, List.mem_cons, List.not_mem_nil, implies_true, forall_const, WS, List.getElem_cons_zero, List.getElem_cons_succ, Option.isNone_some, Option.isNone_none, List.getD_cons_zero, List.getD_cons_succ, I.at, atL, atO, atP, evp, evs, retV, ↓reduceIte, Nat.reduceEqDiff, reduceCtorEq, hsee, xor16, hos4.Eix hij]
        refine Ow.Est (hl.ow ho.drew) hij (ls[i + j] + (tr l1)[i] * (tr l2)[j]) fun w5 ho5 hg5 => ?_
        have hB5 : RowKit.Below w.heap.size w w5 := (hl.bel (hB.trans ((bel_drew w3).mono hB.size)) hB.size).grown hg5 (by rw [hl.size]; exact hB.size) fun b hb => (ho.blk b hb).1
        simp only [ES, List.mem_cons, List.not_mem_nil, implies_true, forall_const, WS, List.getElem_cons_zero, List.getElem_cons_succ, Option.isNone_some, Option.isNone_none, List.getD_cons_zero, List.getD_cons_succ, I.at, atL, atO, atP, evp, evs, retV, ↓reduceIte, Nat.reduceEqDiff, reduceCtorEq, t0, t2, t7, t8, t9, t37, t38, t39, t46, t47, t48, wj, toI_int]
        refine ⟨⟨hB5, j + 1, _, rfl, by omega, ho5, by simp [hll], fun k => ?_⟩, by omega⟩
        rw [co_set _ hij, hc k]
        by_cases hk : k = i + j
        · subst hk
          rw [if_pos rfl, if_pos ⟨by omega, by omega⟩]
          have := hc (i + j)
          rw [if_neg (by omega), El.add_zero, co_get ls hij] at this
          rw [this, show i + j - i = j by omega, co_get _ hjl2]
        · rw [if_neg hk]
          have : (i ≤ k ∧ k < i + (j + 1)) = (i ≤ k ∧ k < i + j) := propext ⟨fun h => by omega, fun h => by omega⟩
          simp only [this]
      · have wi : IntKind.i64.wrap ((i : Int) + 1) = ((i + 1 : Nat) : Int) := by rw [wrap_id (by omega) (by omega)]; omega
        simp only [WS, List.getElem_cons_zero, List.getElem_cons_succ, Option.isNone_some, Option.isNone_none, List.getD_cons_zero, List.getD_cons_succ, I.at, atL, atO, atP, evp, evs, retV, ↓reduceIte, Nat.reduceEqDiff, reduceCtorEq, t0, t2, t7, t8, t9, t37, t38, t39, t46, t47, t48, show decide ((j : Int) < (tln l2 : Int)) = false from decide_eq_false (by omega), wi, toI_int]
        refine ⟨⟨hB, i + 1, ls, rfl, by omega, ho, hll, ?_⟩, by omega⟩
        rw [co_take_succ _ hlt1, Ps.add_mul]
        refine Ps.ext fun k => ?_
        rw [hc k, Ps.add_c, Ps.mono_mul]
        congr 1
        by_cases hik : i ≤ k
        · rw [if_pos hik]
          by_cases hk2 : k < i + j
          · rw [if_pos ⟨hik, hk2⟩]
          · rw [if_neg (by omega), tr_co, tln_dg l2 (k - i) (by omega), El.mul_zero]
        · rw [if_neg (by omega), if_neg hik]
  · have hi' : i = tln l1 := by omega
    have hco : co ls = co l1 * co l2 := by
      rw [hc, hi', show (tr l1).take (tln l1) = tr l1 by rw [← tr_len, List.take_length], tr_co, tr_co]
    simp only [WS, List.getElem_cons_zero, List.getElem_cons_succ, Option.isNone_some, Option.isNone_none, List.getD_cons_zero, List.getD_cons_succ, I.at, atL, atO, atP, evp, evs, retV, ↓reduceIte, Nat.reduceEqDiff, reduceCtorEq, t0, t2, t7, t37, t38, t39, show decide ((i : Int) < (tln l1 : Int)) = false from decide_eq_false (by omega)]
    exact ⟨ls, ho, tr_mul hco (by omega) (by omega) hll, hco, by omega, hB⟩
end Go.Proofs.Ytpmfeaajpjjfiaa.Fw

namespace Go.Proofs.Ytpmfeaajpjjfiaa.Fw
open Go Go.Fw
theorem polys_Ring_w_refuses_spec (w : World) (a : Addr) (s : Value) (hs : List Hd) (h : Sl w s hs) (hb : hs.length ≤ 1000) (hn : ∀ x ∈ hs, x.n ≤ 140737488355328) :
    CallV Try.prog 78 [.pointer (some a), s] w fun v w' => v = .int .i64 (if ∀ x ∈ hs, x.n ≤ 1024 then 0 else 5) ∧ w' = w := by
  refine run_polys_Ring_w_refuses (by simp) ?_
  simp only [c_polys_Ring_w_refuses, WS, List.getElem_cons_zero, List.getElem_cons_succ, Option.isNone_some, Option.isNone_none, List.getD_cons_zero, List.getD_cons_succ, I.at, atL, atO, atP, evp, evs, retV, ↓reduceIte, Nat.reduceEqDiff, reduceCtorEq, h.Xlen]
  refine loop_of (fun t w' => w' = w ∧ t 9 = s ∧ t 10 = .int .i64 (hs.length : Int) ∧ ∃ i : Nat, t 11 = .int .i64 (i : Int) ∧ i ≤ hs.length ∧ ∀ x ∈ hs.take i, x.n ≤ 1024) (fun t _ => hs.length - (toI (t 11)).toNat) ⟨rfl, rfl, rfl, 0, rfl, by omega, by simp⟩ ?_
  rintro t w' ⟨rfl, t9, t10, i, t11, hi, hall⟩
  by_cases hlt : i < hs.length
  · simp only [WS, List.getElem_cons_zero, List.getElem_cons_succ, Option.isNone_some, Option.isNone_none, List.getD_cons_zero, List.getD_cons_succ, I.at, atL, atO, atP, evp, evs, retV, ↓reduceIte, Nat.reduceEqDiff, reduceCtorEq, t9, t10, t11, show decide ((i : Int) < (hs.length : Int)) = true from decide_eq_true (by omega), h.Xix hlt, h.Xld hlt, cell_hd, X_lenS]
    by_cases hx : hs[i].n ≤ 1024
    · simp only [WS, List.getElem_cons_zero, List.getElem_cons_succ, Option.isNone_some, Option.isNone_none, List.getD_cons_zero, List.getD_cons_succ, I.at, atL, atO, atP, evp, evs, retV, ↓reduceIte, Nat.reduceEqDiff, reduceCtorEq, t9, t10, t11, show decide ((1024 : Int) < (hs[i].n : Int)) = false from decide_eq_false (by omega), wrap_id (show -9223372036854775808 ≤ (i : Int) + 1 by omega) (show (i : Int) + 1 < 9223372036854775808 by omega), toI_int]
      refine ⟨⟨i + 1, rfl, by omega, fun x hxm => ?_⟩, by omega⟩
      rw [List.take_add_one, List.getElem?_eq_getElem hlt] at hxm
      rcases List.mem_append.1 hxm with h1 | h1
      · exact hall x h1
      · simp at h1; subst h1; exact hx
    · have : ¬ ∀ x ∈ hs, x.n ≤ 1024 := fun h => hx (h _ (List.getElem_mem hlt))
      simp only [WS, List.getElem_cons_zero, List.getElem_cons_succ, Option.isNone_some, Option.isNone_none, List.getD_cons_zero, List.getD_cons_succ, I.at, atL, atO, atP, evp, evs, retV, ↓reduceIte, Nat.reduceEqDiff, reduceCtorEq, t9, t10, t11, show decide ((1024 : Int) < (hs[i].n : Int)) = true from decide_eq_true (by omega), if_neg this]
  · have : ∀ x ∈ hs, x.n ≤ 1024 := by
      rw [List.take_of_length_le (by omega)] at hall; exact hall
    simp only [WS, List.getElem_cons_zero, List.getElem_cons_succ, Option.isNone_some, Option.isNone_none, List.getD_cons_zero, List.getD_cons_succ, I.at, atL, atO, atP, evp, evs, retV, ↓reduceIte, Nat.reduceEqDiff, reduceCtorEq, t9, t10, t11, show decide ((i : Int) < (hs.length : Int)) = false from decide_eq_false (by omega), if_pos this]
theorem polys_Ring_w_Mul_spec (w : World) (r s1 s2 : Value) (l1 l2 : List (El 16)) (hr : Ring_w w r) (h1 : Sl w s1 l1) (h2 : Sl w s2 l2) (hb1 : l1.length ≤ 70368744175616) (hb2 : l2.length ≤ 70368744175616) :
    CallV Try.prog 67 [r, s1, s2] w fun v w' => RowKit.Below w.heap.size w w' ∧
      ((l1.length ≤ 1024 ∧ l2.length ≤ 1024 ∧ ∃ s l, v = .tuple #[s, .int .i64 0] ∧ Ow w.heap.size w' s l ∧ tr l = l ∧ co l = co l1 * co l2 ∧ l.length ≤ l1.length + l2.length) ∨
       (¬ (l1.length ≤ 1024 ∧ l2.length ≤ 1024) ∧ v = .tuple #[.slice none 0 0, .int .i64 5])) := by
  refine run_polys_Ring_w_Mul (by simp) ?_
  simp only [c_polys_Ring_w_Mul, WS, List.getElem_cons_zero, List.getElem_cons_succ, Option.isNone_some, Option.isNone_none, List.getD_cons_zero, List.getD_cons_succ, I.at, atL, atO, atP, evp, evs, retV, ↓reduceIte, Nat.reduceEqDiff, reduceCtorEq]
  obtain ⟨e1, n1⟩ := h1.hd
  obtain ⟨e2, n2⟩ := h2.hd
  refine X_bsl (zs := [hd s1, hd s2]) (fill2 h1 h2) rfl fun ls w1 ho hB => ?_
  obtain ⟨b, mv, iv, rfl, -, -⟩ := id hr
  simp only [WS, List.getElem_cons_zero, List.getElem_cons_succ, Option.isNone_some, Option.isNone_none, List.getD_cons_zero, List.getD_cons_succ, I.at, atL, atO, atP, evp, evs, retV, ↓reduceIte, Nat.reduceEqDiff, reduceCtorEq]
  refine X_call0 ((polys_Ring_w_refuses_spec w1 _ ls _ ho.sl (by simp) (by simp [n1, n2]; omega)).mono ?_)
  rintro v w' ⟨rfl, rfl⟩
  have hiff : (∀ x ∈ [hd s1, hd s2], x.n ≤ 1024) = (l1.length ≤ 1024 ∧ l2.length ≤ 1024) := by simp [n1, n2]
  by_cases hsz : l1.length ≤ 1024 ∧ l2.length ≤ 1024
  · rw [if_pos (hiff.mpr hsz)]
    simp only [WS, List.getElem_cons_zero, List.getElem_cons_succ, Option.isNone_some, Option.isNone_none, List.getD_cons_zero, List.getD_cons_succ, I.at, atL, atO, atP, evp, evs, retV, ↓reduceIte, Nat.reduceEqDiff, reduceCtorEq, show decide ((0 : Int) = 0) = true from rfl]
    refine X_call0 ((polys_Ring_w_product_spec w' _ s1 s2 l1 l2 (hr.up hB) (h1.up hB) (h2.up hB) hb1 hb2).mono ?_)
    rintro v w2 ⟨l, ho, h3, h4, h5, hB2⟩
    simp only [WS, List.getElem_cons_zero, List.getElem_cons_succ, Option.isNone_some, Option.isNone_none, List.getD_cons_zero, List.getD_cons_succ, I.at, atL, atO, atP, evp, evs, retV, ↓reduceIte, Nat.reduceEqDiff, reduceCtorEq]
    exact ⟨hB.trans (hB2.mono hB.size), Or.inl ⟨hsz.1, hsz.2, v, l, rfl, ho.mono hB.size, h3, h4, h5⟩⟩
  · rw [if_neg (fun e => hsz (hiff.mp e))]
    simp only [WS, List.getElem_cons_zero, List.getElem_cons_succ, Option.isNone_some, Option.isNone_none, List.getD_cons_zero, List.getD_cons_succ, I.at, atL, atO, atP, evp, evs, retV, ↓reduceIte, Nat.reduceEqDiff, reduceCtorEq, show decide ((5 : Int) = 0) = false from rfl]
    exact ⟨hB, Or.inr hsz⟩
theorem polys_Ring_w_Eval_spec (w : World) (r s : Value) (l : List (El 16)) (x : El 16) (hr : Ring_w w r) (h : Sl w s l) (hb : l.length ≤ 70368744175616) :
    CallV Try.prog 32 [r, s, .int .u16 (x.v.toNat : Int)] w fun v w' => v = .int .u16 ((evl l x).v.toNat : Int) ∧ RowKit.Below w.heap.size w w' := by
  obtain ⟨b, mv, iv, rfl, hrow, hm, hiv⟩ := hr
  refine run_polys_Ring_w_Eval (by simp) ?_
  simp only [c_polys_Ring_w_Eval, WS, List.getElem_cons_zero, List.getElem_cons_succ, Option.isNone_some, Option.isNone_none, List.getD_cons_zero, List.getD_cons_succ, I.at, atL, atO, atP, evp, evs, retV, ↓reduceIte, Nat.reduceEqDiff, reduceCtorEq, h.Xlen, wrap_id (show -9223372036854775808 ≤ (l.length : Int) - 1 by omega) (show (l.length : Int) - 1 < 9223372036854775808 by omega)]
  refine loop_of (fun t w' => t 0 = .pointer (some ⟨b, 0, none⟩) ∧ t 1 = s ∧ t 2 = .int .u16 (x.v.toNat : Int) ∧ RowKit.Below w.heap.size w w' ∧ ∃ k : Nat, t 8 = .int .i64 ((k : Int) - 1) ∧ k ≤ l.length ∧ t 7 = .int .u16 ((evl (l.drop k) x).v.toNat : Int)) (fun t _ => (toI (t 8) + 1).toNat)
    ⟨rfl, rfl, rfl, RowKit.Below.refl _ _, l.length, rfl, Nat.le_refl _, by rw [List.drop_length]; rfl⟩ ?_
  rintro t w' ⟨t0, t1, t2, hB, k, t8, hk, t7⟩
  rcases Nat.eq_zero_or_pos k with rfl | hp
  · rw [List.drop_zero] at t7
    simp only [WS, List.getElem_cons_zero, List.getElem_cons_succ, Option.isNone_some, Option.isNone_none, List.getD_cons_zero, List.getD_cons_succ, I.at, atL, atO, atP, evp, evs, retV, ↓reduceIte, Nat.reduceEqDiff, reduceCtorEq, t0, t1, t2, t7, t8, show decide ((0 : Int) ≤ ((0 : Nat) : Int) - 1) = false from rfl]
    exact hB
  · obtain ⟨k, rfl⟩ : ∃ j, k = j + 1 := ⟨k - 1, by omega⟩
    have e1 : ((k + 1 : Nat) : Int) - 1 = (k : Int) := by omega
    rw [e1] at t8
    have hkl : k < l.length := by omega
    obtain ⟨b', mv', iv', hbe, hrow', hm', -⟩ := (show Ring_w w (.pointer (some ⟨b, 0, none⟩)) from ⟨b, mv, iv, rfl, hrow, hm, hiv⟩).up hB
    cases hbe
    have hos := (h.up hB).drew
    simp only [WS, List.getElem_cons_zero, List.getElem_cons_succ, Option.isNone_some, Option.isNone_none, List.getD_cons_zero, List.getD_cons_succ, I.at, atL, atO, atP, evp, evs, retV, ↓reduceIte, Nat.reduceEqDiff, reduceCtorEq, t0, t1, t2, t7, t8, show decide ((0 : Int) ≤ (k : Int)) = true by simp]
    refine WP_dops ?_
    simp only [ES, List.mem_cons, List.not_mem_nil, implies_true, forall_const, WS, List.getElem_cons_zero, List.getElem_cons_succ, Option.isNone_some, Option.isNone_none, List.getD_cons_zero, List.getD_cons_succ, I.at, atL, atO, atP, evp, evs, retV, ↓reduceIte, Nat.reduceEqDiff, reduceCtorEq, t0, t1, t2, t7, t8, addr_add0, Nat.add_zero, hrow'.drew.Eld (show 0 < [mv', iv'].length by simp)]
    refine E_callK (Mul_w.call (w := w'.drew) hm' _ _ fun w4 hl => ?_)
    have hos4 := hl.sl hos
    have hsee := hos.sees hkl Try.prog
    rw [cell_e16] at hsee
    simp only [ES, List.mem_cons, List.not_mem_nil, implies_true, forall_const, WS, List.getElem_cons_zero, List.getElem_cons_succ, Option.isNone_some, Option.isNone_none, List.getD_cons_zero, List.getD_cons_succ, I.at, atL, atO, atP, evp, evs, retV, ↓reduceIte, Nat.reduceEqDiff, reduceCtorEq, t0, t1, t2, t7, t8, hos4.Eix hkl, hos4.Eld hkl, cell_e16, hsee, xor16, wrap_id (show -9223372036854775808 ≤ (k : Int) - 1 by omega) (show (k : Int) - 1 < 9223372036854775808 by omega), toI_int]
    refine ⟨⟨hl.bel (hB.trans ((bel_drew w').mono hB.size)) hB.size, k, rfl, by omega, ?_⟩, by omega⟩
    rw [evl_drop x l hkl, El.add_comm, El.mul_comm x]
end Go.Proofs.Ytpmfeaajpjjfiaa.Fw

set_option linter.unusedVariables false
set_option linter.unusedSimpArgs false
set_option maxRecDepth 100000
set_option maxHeartbeats 1000000
namespace Go.Proofs.Ytpmfeaajpjjfiaa.Fw
open Go Go.Fw Go.Proofs
attribute [local irreducible] stepI
def c_gf16_Element : C := .seq (.ops [⟨0, (some 2), none, .mov (.c (.int .u16 0)), []⟩, ⟨1, (some 3), none, .mov (.c (.int .i64 0)), []⟩]) (.seq (.seq (.ops [⟨0, (some 4), none, .mov (.t 0), []⟩, ⟨1, (some 5), none, .bin .lss (.t 4) (.c (.int .i64 0)), []⟩, ⟨2, (some 6), none, .mov (.t 5), []⟩, ⟨3, (some 7), (some (6, false)), .mov (.t 0), []⟩, ⟨4, (some 8), (some (6, false)), .bin .gtr (.t 7) (.c (.int .i64 65535)), []⟩, ⟨5, (some 9), none, .pick (.t 6) (.c (.bool true)) (.t 8), []⟩]) (.ite (.t 9) (.seq (.ops [⟨0, (some 2), none, .mov (.c (.int .u16 0)), []⟩, ⟨1, (some 3), none, .mov (.c (.int .i64 31)), []⟩]) .ret) .skip)) (.seq (.ops [⟨0, (some 10), none, .mov (.t 0), []⟩, ⟨1, (some 11), none, .call (.c (.func (.func 43) #[] #[])) [.t 10], []⟩, ⟨2, (some 2), none, .mov (.t 11), []⟩, ⟨3, (some 3), none, .mov (.c (.int .i64 0)), []⟩]) .ret))
attribute [irreducible] c_gf16_Element
theorem run_gf16_Element {args : List Value} {w : World} {K : Value → World → Prop} (hn : args.length ≤ 12) (h : WP Try.prog c_gf16_Element (endQ [.t 2, .t 3] K) (initT args) w) : CallV Try.prog 27 args w K :=
  call_of follows Try.func27 (by kernel_rfl) (by kernel_rfl) hn h
def c_gf16_element : C := .seq (.ops [⟨0, (some 2), none, .mov (.c (.int .u16 0)), []⟩]) (.seq (.ops [⟨0, (some 3), none, .mov (.c (.int .u16 0)), []⟩]) (.seq (.seq (.ops [⟨0, (some 6), none, .call (.c (.func (.func 60) #[] #[])) [], []⟩, ⟨1, (some 7), none, .mov (.c (.int .i64 0)), []⟩]) (.block 0 (.loop (.seq (.ops [⟨0, (some 8), none, .bin .lss (.t 7) (.c (.int .i64 16)), []⟩]) (.seq (.ite (.t 8) .skip (.exit 0)) (.seq (.block 1 (.seq (.ops [⟨0, (some 9), none, .mov (.t 7), []⟩, ⟨1, (some 10), none, .ixv 16 (.t 6) (.t 7), []⟩, ⟨2, (some 4), none, .mov (.t 9), []⟩, ⟨3, (some 5), none, .mov (.t 10), []⟩]) (.seq (.ops [⟨0, (some 11), none, .mov (.t 0), []⟩, ⟨1, (some 12), none, .mov (.t 4), []⟩, ⟨2, (some 13), none, .bin .shr (.t 11) (.t 12), []⟩, ⟨3, (some 14), none, .bin .and (.t 13) (.c (.int .i64 1)), []⟩, ⟨4, (some 15), none, .bin .eql (.t 14) (.c (.int .i64 1)), []⟩]) (.ite (.t 15) (.ops [⟨0, (some 16), none, .mov (.t 3), []⟩, ⟨1, (some 17), none, .mov (.t 5), []⟩, ⟨2, (some 18), none, .bin .xor (.t 16) (.t 17), []⟩, ⟨3, (some 3), none, .mov (.t 18), []⟩]) .skip)))) (.ops [⟨0, (some 19), none, .bin .add (.t 7) (.c (.int .i64 1)), []⟩, ⟨1, (some 7), none, .mov (.t 19), []⟩]))))))) (.seq (.ops [⟨0, (some 20), none, .mov (.t 3), []⟩, ⟨1, (some 2), none, .mov (.t 20), []⟩]) .ret)))
attribute [irreducible] c_gf16_element
theorem run_gf16_element {args : List Value} {w : World} {K : Value → World → Prop} (hn : args.length ≤ 21) (h : WP Try.prog c_gf16_element (endQ [.t 2] K) (initT args) w) : CallV Try.prog 43 args w K :=
  call_of follows Try.func43 (by kernel_rfl) (by kernel_rfl) hn h
def c_lch_Skew : C := .seq (.ops [⟨0, (some 4), none, .mov (.c (.int .u16 0)), []⟩, ⟨1, (some 5), none, .mov (.c (.int .i64 0)), []⟩]) (.seq (.seq (.ops [⟨0, (some 8), none, .mov (.t 0), []⟩, ⟨1, (some 9), none, .bin .lss (.t 8) (.c (.int .i64 0)), []⟩, ⟨2, (some 10), none, .mov (.t 9), []⟩, ⟨3, (some 11), (some (10, false)), .mov (.t 0), []⟩, ⟨4, (some 12), (some (10, false)), .bin .gtr (.t 11) (.c (.int .i64 16)), []⟩, ⟨5, (some 13), none, .pick (.t 10) (.c (.bool true)) (.t 12), []⟩]) (.ite (.t 13) (.seq (.ops [⟨0, (some 4), none, .mov (.c (.int .u16 0)), []⟩, ⟨1, (some 5), none, .mov (.c (.int .i64 7)), []⟩]) .ret) .skip)) (.seq (.seq (.ops [⟨0, (some 14), none, .mov (.t 1), []⟩, ⟨1, (some 15), none, .bin .lss (.t 14) (.c (.int .i64 0)), []⟩, ⟨2, (some 16), none, .mov (.t 15), []⟩, ⟨3, (some 17), (some (16, false)), .mov (.t 1), []⟩, ⟨4, (some 18), (some (16, false)), .bin .gtr (.t 17) (.c (.int .i64 65535)), []⟩, ⟨5, (some 19), none, .pick (.t 16) (.c (.bool true)) (.t 18), []⟩]) (.ite (.t 19) (.seq (.ops [⟨0, (some 4), none, .mov (.c (.int .u16 0)), []⟩, ⟨1, (some 5), none, .mov (.c (.int .i64 31)), []⟩]) .ret) .skip)) (.seq (.ops [⟨0, (some 21), none, .mov (.t 1), []⟩, ⟨1, (some 22), none, .mov (.t 0), []⟩, ⟨2, (some 23), none, .bin .shr (.t 21) (.t 22), []⟩, ⟨3, (some 24), none, .call (.c (.func (.func 27) #[] #[])) [.t 23], []⟩, ⟨4, (some 20), none, .mov (.t 24), []⟩, ⟨5, (some 25), none, .ext (.t 20) 0, []⟩, ⟨6, (some 26), none, .ext (.t 20) 1, []⟩, ⟨7, (some 6), none, .mov (.t 25), []⟩, ⟨8, (some 7), none, .mov (.t 26), []⟩]) (.seq (.ops [⟨0, (some 27), none, .mov (.t 6), []⟩, ⟨1, (some 28), none, .mov (.t 7), []⟩, ⟨2, (some 4), none, .mov (.t 27), []⟩, ⟨3, (some 5), none, .mov (.t 28), []⟩]) .ret))))
attribute [irreducible] c_lch_Skew
theorem run_lch_Skew {args : List Value} {w : World} {K : Value → World → Prop} (hn : args.length ≤ 29) (h : WP Try.prog c_lch_Skew (endQ [.t 4, .t 5] K) (initT args) w) : CallV Try.prog 52 args w K :=
  call_of follows Try.func52 (by kernel_rfl) (by kernel_rfl) hn h
def c_gf16_basis : C := .seq (.ops [⟨0, (some 0), none, .alloc 79 (List.replicate 16 (.int .u16 0)), []⟩]) (.seq (.ops [⟨0, (some 1), none, .bld (List.replicate 16 (.int .u16 0)) [(0, (1, .c (.int .u16 1))), (1, (1, .c (.int .u16 44234))), (2, (1, .c (.int .u16 15374))), (3, (1, .c (.int .u16 5694))), (4, (1, .c (.int .u16 50562))), (5, (1, .c (.int .u16 60718))), (6, (1, .c (.int .u16 37196))), (7, (1, .c (.int .u16 16402))), (8, (1, .c (.int .u16 27800))), (9, (1, .c (.int .u16 4312))), (10, (1, .c (.int .u16 27250))), (11, (1, .c (.int .u16 47360))), (12, (1, .c (.int .u16 64952))), (13, (1, .c (.int .u16 64308))), (14, (1, .c (.int .u16 65336))), (15, (1, .c (.int .u16 39198)))], []⟩, ⟨1, none, none, .stn 16 (.t 0) (.t 1), []⟩]) .ret)
attribute [irreducible] c_gf16_basis
theorem run_gf16_basis {args : List Value} {w : World} {K : Value → World → Prop} (hn : args.length ≤ 2) (h : WP Try.prog c_gf16_basis (endQ [.cn 0 16] K) (initT args) w) : CallV Try.prog 60 args w K :=
  call_of follows Try.func60 (by kernel_rfl) (by kernel_rfl) hn h
end Go.Proofs.Ytpmfeaajpjjfiaa.Fw
namespace Go.Proofs.Ytpmfeaajpjjfiaa.Fw
open Go Go.Fw
def basV : List Value := [.int .u16 1, .int .u16 44234, .int .u16 15374, .int .u16 5694, .int .u16 50562, .int .u16 60718, .int .u16 37196, .int .u16 16402, .int .u16 27800, .int .u16 4312, .int .u16 27250, .int .u16 47360, .int .u16 64952, .int .u16 64308, .int .u16 65336, .int .u16 39198]
theorem basV_get (k : Nat) (h : k < 16) (K : Value → Prop) : getK basV k K = K (.int .u16 ((cbs.getD k 0).toNat : Int)) := by
  have : k = 0 ∨ k = 1 ∨ k = 2 ∨ k = 3 ∨ k = 4 ∨ k = 5 ∨ k = 6 ∨ k = 7 ∨ k = 8 ∨ k = 9 ∨ k = 10 ∨ k = 11 ∨ k = 12 ∨ k = 13 ∨ k = 14 ∨ k = 15 := by omega
  rcases this with rfl | rfl | rfl | rfl | rfl | rfl | rfl | rfl | rfl | rfl | rfl | rfl | rfl | rfl | rfl | rfl <;> rfl
theorem gf16_basis_spec (w : World) : CallV Try.prog 60 [] w fun v w' => v = .agg basV.toArray ∧ RowKit.Below w.heap.size w w' := by
  refine run_gf16_basis (by simp) ?_
  unfold c_gf16_basis
  generalize hz : List.replicate 16 (Value.int .u16 0) = z
  exact tabWP (cs := basV) (by subst hz; kernel_rfl) (fun _ _ => rfl) (by subst hz; kernel_rfl) (by kernel_rfl) (by simp [basV, scal]) fun w' h => ⟨rfl, h⟩
theorem gf16_element_spec (w : World) (n : Nat) (hn : n < 65536) : CallV Try.prog 43 [.int .i64 (n : Int)] w fun v w' => v = .int .u16 ((wel n).v.toNat : Int) ∧ RowKit.Below w.heap.size w w' := by
  refine run_gf16_element (by simp) ?_
  simp only [c_gf16_element, WS, List.getElem_cons_zero, List.getElem_cons_succ, Option.isNone_some, Option.isNone_none, List.getD_cons_zero, List.getD_cons_succ, I.at, atL, atO, atP, evp, evs, retV, ↓reduceIte, Nat.reduceEqDiff, reduceCtorEq]
  refine X_call0 ((gf16_basis_spec w).mono ?_)
  rintro _ w1 ⟨rfl, hB⟩
  simp (maxSteps := 1000000) (disch := omega) only [WS, List.getElem_cons_zero, List.getElem_cons_succ, Option.isNone_some, Option.isNone_none, List.getD_cons_zero, List.getD_cons_succ, I.at, atL, atO, atP, evp, evs, retV, ↓reduceIte, Nat.reduceEqDiff, reduceCtorEq, AS]
  refine loop_of (fun t w' => t 0 = .int .i64 (n : Int) ∧ t 6 = .agg basV.toArray ∧ RowKit.Below w.heap.size w w' ∧ ∃ k : Nat, t 7 = .int .i64 (k : Int) ∧ k ≤ 16 ∧ t 3 = .int .u16 ((bsum (fun t => sel (n.testBit t) (cbs.getD t 0)) k).toNat : Int)) (fun t _ => 16 - (toI (t 7)).toNat)
    ⟨by simp only [WS, List.getElem_cons_zero, List.getElem_cons_succ, Option.isNone_some, Option.isNone_none, List.getD_cons_zero, List.getD_cons_succ, I.at, atL, atO, atP, evp, evs, retV, ↓reduceIte, Nat.reduceEqDiff, reduceCtorEq], by simp only [WS, List.getElem_cons_zero, List.getElem_cons_succ, Option.isNone_some, Option.isNone_none, List.getD_cons_zero, List.getD_cons_succ, I.at, atL, atO, atP, evp, evs, retV, ↓reduceIte, Nat.reduceEqDiff, reduceCtorEq], hB, 0, rfl, by omega, rfl⟩ ?_
  rintro t w2 ⟨t0, t6, hB, k, t7, hk, t3⟩
  by_cases hlt : k < 16
  · simp (maxSteps := 1000000) (disch := omega) only [WS, List.getElem_cons_zero, List.getElem_cons_succ, Option.isNone_some, Option.isNone_none, List.getD_cons_zero, List.getD_cons_succ, I.at, atL, atO, atP, evp, evs, retV, ↓reduceIte, Nat.reduceEqDiff, reduceCtorEq, AS, t0, t6, t7, t3, X_ixv, Int.natCast_nonneg, Int.toNat_natCast, basV_get k hlt, show (((k : Int) < ((16 : Nat) : Int)) = True) from eq_true (by omega), X_shr, shr_nat .i64 n k (by show k ≤ 64; omega)]
    have e1 : bitsOp .and .i64 ((n >>> k : Nat) : Int) 1 = (((n >>> k) &&& 1 : Nat) : Int) := bits_and fits_i64 (b := 1) (by rw [Nat.shiftRight_eq_div_pow]; exact Nat.lt_of_le_of_lt (Nat.div_le_self _ _) (Nat.lt_trans hn (by decide))) (by decide)
    rw [e1, and_one_shr]
    by_cases hb : n.testBit k = true
    · rw [if_pos hb]
      simp (maxSteps := 1000000) (disch := omega) only [WS, List.getElem_cons_zero, List.getElem_cons_succ, Option.isNone_some, Option.isNone_none, List.getD_cons_zero, List.getD_cons_succ, I.at, atL, atO, atP, evp, evs, retV, ↓reduceIte, Nat.reduceEqDiff, reduceCtorEq, AS, t0, t6, t7, t3, show decide ((((1 : Nat)) : Int) = 1) = true from rfl]
      refine ⟨⟨hB, k + 1, rfl, by omega, ?_⟩, by omega⟩
      rw [bits_xor fits_u16 (BitVec.isLt _) (BitVec.isLt _), ← BitVec.toNat_xor]
      show _ = Value.int .u16 ((bsum _ k ^^^ sel (n.testBit k) _).toNat : Int)
      rw [hb]; rfl
    · rw [if_neg hb]
      simp (maxSteps := 1000000) (disch := omega) only [WS, List.getElem_cons_zero, List.getElem_cons_succ, Option.isNone_some, Option.isNone_none, List.getD_cons_zero, List.getD_cons_succ, I.at, atL, atO, atP, evp, evs, retV, ↓reduceIte, Nat.reduceEqDiff, reduceCtorEq, AS, t0, t6, t7, t3, show decide ((((0 : Nat)) : Int) = 1) = false from rfl]
      refine ⟨⟨hB, k + 1, rfl, by omega, ?_⟩, by omega⟩
      show _ = Value.int .u16 ((bsum _ k ^^^ sel (n.testBit k) _).toNat : Int)
      rw [Bool.eq_false_iff.2 hb]
      show _ = Value.int .u16 ((bsum _ k ^^^ 0#16).toNat : Int)
      rw [BitVec.xor_zero]
  · obtain rfl : k = 16 := by omega
    simp (maxSteps := 1000000) (disch := omega) only [WS, List.getElem_cons_zero, List.getElem_cons_succ, Option.isNone_some, Option.isNone_none, List.getD_cons_zero, List.getD_cons_succ, I.at, atL, atO, atP, evp, evs, retV, ↓reduceIte, Nat.reduceEqDiff, reduceCtorEq, AS, t0, t6, t7, t3, show decide (((16 : Nat) : Int) < 16) = false from rfl]
    refine ⟨?_, hB⟩
    congr 3
    show _ = bw (BitVec.ofNat 16 n)
    unfold bw
    refine bsum_congr 16 fun i hi => ?_
    congr 1
    rw [BitVec.getLsbD_ofNat]
    simp [hi]
theorem gf16_Element_spec (w : World) (n : Int) : CallV Try.prog 27 [.int .i64 n] w fun v w' => RowKit.Below w.heap.size w w' ∧ ((0 ≤ n ∧ n < 65536 ∧ v = .tuple #[.int .u16 ((wel n.toNat).v.toNat : Int), .int .i64 0]) ∨ (¬ (0 ≤ n ∧ n < 65536) ∧ v = .tuple #[.int .u16 0, .int .i64 31])) := by
  refine run_gf16_Element (by simp) ?_
  simp only [c_gf16_Element, WS, List.getElem_cons_zero, List.getElem_cons_succ, Option.isNone_some, Option.isNone_none, List.getD_cons_zero, List.getD_cons_succ, I.at, atL, atO, atP, evp, evs, retV, ↓reduceIte, Nat.reduceEqDiff, reduceCtorEq]
  by_cases h0 : n < 0
  · simp (maxSteps := 1000000) (disch := omega) only [WS, List.getElem_cons_zero, List.getElem_cons_succ, Option.isNone_some, Option.isNone_none, List.getD_cons_zero, List.getD_cons_succ, I.at, atL, atO, atP, evp, evs, retV, ↓reduceIte, Nat.reduceEqDiff, reduceCtorEq, AS]
    exact ⟨RowKit.Below.refl _ _, Or.inr (by omega)⟩
  obtain ⟨n, rfl⟩ : ∃ m : Nat, n = (m : Int) := ⟨n.toNat, by omega⟩
  by_cases h1 : 65535 < n
  · simp (maxSteps := 1000000) (disch := omega) only [WS, List.getElem_cons_zero, List.getElem_cons_succ, Option.isNone_some, Option.isNone_none, List.getD_cons_zero, List.getD_cons_succ, I.at, atL, atO, atP, evp, evs, retV, ↓reduceIte, Nat.reduceEqDiff, reduceCtorEq, AS]
    exact ⟨RowKit.Below.refl _ _, Or.inr (by omega)⟩
  simp (maxSteps := 1000000) (disch := omega) only [WS, List.getElem_cons_zero, List.getElem_cons_succ, Option.isNone_some, Option.isNone_none, List.getD_cons_zero, List.getD_cons_succ, I.at, atL, atO, atP, evp, evs, retV, ↓reduceIte, Nat.reduceEqDiff, reduceCtorEq, AS]
  refine X_call0 ((gf16_element_spec w n (by omega)).mono ?_)
  rintro _ w1 ⟨rfl, hB⟩
  simp (maxSteps := 1000000) (disch := omega) only [WS, List.getElem_cons_zero, List.getElem_cons_succ, Option.isNone_some, Option.isNone_none, List.getD_cons_zero, List.getD_cons_succ, I.at, atL, atO, atP, evp, evs, retV, ↓reduceIte, Nat.reduceEqDiff, reduceCtorEq, AS, Int.toNat_natCast]
  exact ⟨hB, Or.inl (by omega)⟩
theorem lch_Skew_spec (w : World) (i j : Int) : CallV Try.prog 52 [.int .i64 i, .int .i64 j] w fun v w' => RowKit.Below w.heap.size w w' ∧
    ((0 ≤ i ∧ i ≤ 16 ∧ 0 ≤ j ∧ j < 65536 ∧ v = .tuple #[.int .u16 ((wel (j.toNat >>> i.toNat)).v.toNat : Int), .int .i64 0]) ∨ (¬ (0 ≤ i ∧ i ≤ 16) ∧ v = .tuple #[.int .u16 0, .int .i64 7]) ∨ (0 ≤ i ∧ i ≤ 16 ∧ ¬ (0 ≤ j ∧ j < 65536) ∧ v = .tuple #[.int .u16 0, .int .i64 31])) := by
  refine run_lch_Skew (by simp) ?_
  simp only [c_lch_Skew, WS, List.getElem_cons_zero, List.getElem_cons_succ, Option.isNone_some, Option.isNone_none, List.getD_cons_zero, List.getD_cons_succ, I.at, atL, atO, atP, evp, evs, retV, ↓reduceIte, Nat.reduceEqDiff, reduceCtorEq]
  by_cases h0 : i < 0
  · simp (maxSteps := 1000000) (disch := omega) only [WS, List.getElem_cons_zero, List.getElem_cons_succ, Option.isNone_some, Option.isNone_none, List.getD_cons_zero, List.getD_cons_succ, I.at, atL, atO, atP, evp, evs, retV, ↓reduceIte, Nat.reduceEqDiff, reduceCtorEq, AS]
    exact ⟨RowKit.Below.refl _ _, Or.inr (Or.inl (by omega))⟩
  obtain ⟨i, rfl⟩ : ∃ m : Nat, i = (m : Int) := ⟨i.toNat, by omega⟩
  by_cases h1 : 16 < i
  · simp (maxSteps := 1000000) (disch := omega) only [WS, List.getElem_cons_zero, List.getElem_cons_succ, Option.isNone_some, Option.isNone_none, List.getD_cons_zero, List.getD_cons_succ, I.at, atL, atO, atP, evp, evs, retV, ↓reduceIte, Nat.reduceEqDiff, reduceCtorEq, AS]
    exact ⟨RowKit.Below.refl _ _, Or.inr (Or.inl (by omega))⟩
  by_cases h2 : j < 0
  · simp (maxSteps := 1000000) (disch := omega) only [WS, List.getElem_cons_zero, List.getElem_cons_succ, Option.isNone_some, Option.isNone_none, List.getD_cons_zero, List.getD_cons_succ, I.at, atL, atO, atP, evp, evs, retV, ↓reduceIte, Nat.reduceEqDiff, reduceCtorEq, AS]
    exact ⟨RowKit.Below.refl _ _, Or.inr (Or.inr (by omega))⟩
  obtain ⟨j, rfl⟩ : ∃ m : Nat, j = (m : Int) := ⟨j.toNat, by omega⟩
  by_cases h3 : 65535 < j
  · simp (maxSteps := 1000000) (disch := omega) only [WS, List.getElem_cons_zero, List.getElem_cons_succ, Option.isNone_some, Option.isNone_none, List.getD_cons_zero, List.getD_cons_succ, I.at, atL, atO, atP, evp, evs, retV, ↓reduceIte, Nat.reduceEqDiff, reduceCtorEq, AS]
    exact ⟨RowKit.Below.refl _ _, Or.inr (Or.inr (by omega))⟩
  simp (maxSteps := 1000000) (disch := omega) only [WS, List.getElem_cons_zero, List.getElem_cons_succ, Option.isNone_some, Option.isNone_none, List.getD_cons_zero, List.getD_cons_succ, I.at, atL, atO, atP, evp, evs, retV, ↓reduceIte, Nat.reduceEqDiff, reduceCtorEq, AS, X_shr, Int.natCast_nonneg, shr_nat .i64 j i (by show i ≤ 64; omega)]
  refine X_call0 ((gf16_Element_spec w _).mono ?_)
  have hs : j >>> i < 65536 := by rw [Nat.shiftRight_eq_div_pow]; exact Nat.lt_of_le_of_lt (Nat.div_le_self _ _) (by omega)
  rintro _ w1 ⟨hB, ⟨-, -, rfl⟩ | ⟨hn, -⟩⟩
  · simp (maxSteps := 1000000) (disch := omega) only [WS, List.getElem_cons_zero, List.getElem_cons_succ, Option.isNone_some, Option.isNone_none, List.getD_cons_zero, List.getD_cons_succ, I.at, atL, atO, atP, evp, evs, retV, ↓reduceIte, Nat.reduceEqDiff, reduceCtorEq, AS, Int.toNat_natCast]
    exact ⟨hB, Or.inl (by omega)⟩
  · exact absurd (show 0 ≤ ((j >>> i : Nat) : Int) ∧ ((j >>> i : Nat) : Int) < 65536 by generalize j >>> i = z at *; omega) hn
end Go.Proofs.Ytpmfeaajpjjfiaa.Fw

set_option linter.unusedVariables false
set_option linter.unusedSimpArgs false
set_option maxRecDepth 100000
set_option maxHeartbeats 1000000
namespace Go.Proofs.Ytpmfeaajpjjfiaa.Fw
open Go Go.Fw Go.Proofs
attribute [local irreducible] stepI
def c_afft_power : C := .seq (.ops [⟨0, (some 2), none, .mov (.c (.bool false)), []⟩]) (.seq (.ops [⟨0, (some 3), none, .mov (.t 0), []⟩, ⟨1, (some 4), none, .bin .geq (.t 3) (.c (.int .i64 1)), []⟩, ⟨2, (some 5), none, .mov (.t 4), []⟩, ⟨3, (some 6), (some (5, true)), .mov (.t 0), []⟩, ⟨4, (some 7), (some (5, true)), .bin .leq (.t 6) (.c (.int .i64 65536)), []⟩, ⟨5, (some 8), none, .pick (.t 5) (.t 7) (.c (.bool false)), []⟩, ⟨6, (some 9), none, .mov (.t 8), []⟩, ⟨7, (some 10), (some (9, true)), .mov (.t 0), []⟩, ⟨8, (some 11), (some (9, true)), .mov (.t 0), []⟩, ⟨9, (some 12), (some (9, true)), .bin .sub (.t 11) (.c (.int .i64 1)), []⟩, ⟨10, (some 13), (some (9, true)), .bin .and (.t 10) (.t 12), []⟩, ⟨11, (some 14), (some (9, true)), .bin .eql (.t 13) (.c (.int .i64 0)), []⟩, ⟨12, (some 15), none, .pick (.t 9) (.t 14) (.c (.bool false)), []⟩, ⟨13, (some 2), none, .mov (.t 15), []⟩]) .ret)
attribute [irreducible] c_afft_power
theorem run_afft_power {args : List Value} {w : World} {K : Value → World → Prop} (hn : args.length ≤ 16) (h : WP Try.prog c_afft_power (endQ [.t 2] K) (initT args) w) : CallV Try.prog 34 args w K :=
  call_of follows Try.func34 (by kernel_rfl) (by kernel_rfl) hn h
def c_afft_begins : C := .seq (.ops [⟨0, (some 6), none, .mov (.c (.bool false)), []⟩]) (.seq (.ops [⟨0, (some 7), none, .mov (.t 0), []⟩, ⟨1, (some 8), none, .bin .geq (.t 7) (.c (.int .i64 0)), []⟩, ⟨2, (some 9), none, .mov (.t 8), []⟩, ⟨3, (some 10), (some (9, true)), .mov (.t 2), []⟩, ⟨4, (some 11), (some (9, true)), .bin .leq (.t 10) (.c (.int .i64 65536)), []⟩, ⟨5, (some 12), none, .pick (.t 9) (.t 11) (.c (.bool false)), []⟩, ⟨6, (some 13), none, .mov (.t 12), []⟩, ⟨7, (some 14), (some (13, true)), .mov (.t 0), []⟩, ⟨8, (some 15), (some (13, true)), .mov (.t 2), []⟩, ⟨9, (some 16), (some (13, true)), .bin .sub (.c (.int .i64 65536)) (.t 15), []⟩, ⟨10, (some 17), (some (13, true)), .bin .leq (.t 14) (.t 16), []⟩, ⟨11, (some 18), none, .pick (.t 13) (.t 17) (.c (.bool false)), []⟩, ⟨12, (some 19), none, .mov (.t 18), []⟩, ⟨13, (some 20), (some (19, true)), .mov (.t 0), []⟩, ⟨14, (some 21), (some (19, true)), .mov (.t 1), []⟩, ⟨15, (some 22), (some (19, true)), .bin .rem (.t 20) (.t 21), []⟩, ⟨16, (some 23), (some (19, true)), .bin .eql (.t 22) (.c (.int .i64 0)), []⟩, ⟨17, (some 24), none, .pick (.t 19) (.t 23) (.c (.bool false)), []⟩, ⟨18, (some 6), none, .mov (.t 24), []⟩]) .ret)
attribute [irreducible] c_afft_begins
theorem run_afft_begins {args : List Value} {w : World} {K : Value → World → Prop} (hn : args.length ≤ 25) (h : WP Try.prog c_afft_begins (endQ [.t 6] K) (initT args) w) : CallV Try.prog 35 args w K :=
  call_of follows Try.func35 (by kernel_rfl) (by kernel_rfl) hn h
def c_afft_skew : C := .seq (.ops [⟨0, (some 4), none, .mov (.c (.int .u16 0)), []⟩]) (.seq (.ops [⟨0, (some 8), none, .mov (.t 0), []⟩, ⟨1, (some 9), none, .mov (.t 1), []⟩, ⟨2, (some 10), none, .call (.c (.func (.func 52) #[] #[])) [.t 8, .t 9], []⟩, ⟨3, (some 7), none, .mov (.t 10), []⟩, ⟨4, (some 11), none, .ext (.t 7) 0, []⟩, ⟨5, (some 12), none, .ext (.t 7) 1, []⟩, ⟨6, (some 5), none, .mov (.t 11), []⟩, ⟨7, (some 6), none, .mov (.t 12), []⟩]) (.seq (.ops [⟨0, (some 13), none, .mov (.t 5), []⟩, ⟨1, (some 4), none, .mov (.t 13), []⟩]) .ret))
attribute [irreducible] c_afft_skew
theorem run_afft_skew {args : List Value} {w : World} {K : Value → World → Prop} (hn : args.length ≤ 14) (h : WP Try.prog c_afft_skew (endQ [.t 4] K) (initT args) w) : CallV Try.prog 37 args w K :=
  call_of follows Try.func37 (by kernel_rfl) (by kernel_rfl) hn h
def c_afft_levels : C := .seq (.ops [⟨0, (some 2), none, .mov (.c (.int .i64 0)), []⟩]) (.seq (.ops [⟨0, (some 3), none, .mov (.c (.int .i64 (-1))), []⟩]) (.seq (.block 0 (.loop (.seq (.seq (.ops [⟨0, (some 4), none, .mov (.t 0), []⟩, ⟨1, (some 5), none, .bin .gtr (.t 4) (.c (.int .i64 1)), []⟩]) (.ite (.t 5) .skip (.exit 0))) (.seq (.block 1 (.ops [⟨0, (some 8), none, .mov (.t 3), []⟩, ⟨1, (some 9), none, .bin .add (.t 8) (.c (.int .i64 1)), []⟩, ⟨2, (some 3), none, .mov (.t 9), []⟩])) (.ops [⟨0, (some 6), none, .mov (.t 0), []⟩, ⟨1, (some 7), none, .bin .quo (.t 6) (.c (.int .i64 2)), []⟩, ⟨2, (some 0), none, .mov (.t 7), []⟩]))))) (.seq (.ops [⟨0, (some 10), none, .mov (.t 3), []⟩, ⟨1, (some 2), none, .mov (.t 10), []⟩]) .ret)))
attribute [irreducible] c_afft_levels
theorem run_afft_levels {args : List Value} {w : World} {K : Value → World → Prop} (hn : args.length ≤ 11) (h : WP Try.prog c_afft_levels (endQ [.t 2] K) (initT args) w) : CallV Try.prog 38 args w K :=
  call_of follows Try.func38 (by kernel_rfl) (by kernel_rfl) hn h
end Go.Proofs.Ytpmfeaajpjjfiaa.Fw
namespace Go.Proofs.Ytpmfeaajpjjfiaa.Fw
open Go Go.Fw
theorem and_pred (n : Nat) (h : n ≤ 65536) (h1 : 1 ≤ n) : bitsOp .and .i64 (n : Int) ((n - 1 : Nat) : Int) = ((n &&& (n - 1) : Nat) : Int) := bits_and fits_i64 (by omega) (by omega)
theorem afft_power_spec (w : World) (n : Int) : CallV Try.prog 34 [.int .i64 n] w fun v w' => v = .bool (isP n) ∧ w' = w := by
  refine run_afft_power (by simp) ?_
  simp only [c_afft_power, WS, List.getElem_cons_zero, List.getElem_cons_succ, Option.isNone_some, Option.isNone_none, List.getD_cons_zero, List.getD_cons_succ, I.at, atL, atO, atP, evp, evs, retV, ↓reduceIte, Nat.reduceEqDiff, reduceCtorEq]
  unfold isP
  by_cases h1 : 1 ≤ n
  · obtain ⟨n, rfl⟩ : ∃ m : Nat, n = (m : Int) := ⟨n.toNat, by omega⟩
    by_cases h2 : n ≤ 65536
    · have e : decide (((n &&& (n - 1) : Nat) : Int) = 0) = decide (1 ≤ (n : Int) ∧ (n : Int) ≤ 65536 ∧ (n : Int).toNat &&& ((n : Int).toNat - 1) = 0) := by
        rw [Int.toNat_natCast]
        exact decide_eq_decide.2 ⟨fun h => ⟨h1, by omega, by omega⟩, fun h => by omega⟩
      rw [← e]
      simp (maxSteps := 1000000) (disch := omega) only [WS, List.getElem_cons_zero, List.getElem_cons_succ, Option.isNone_some, Option.isNone_none, List.getD_cons_zero, List.getD_cons_succ, I.at, atL, atO, atP, evp, evs, retV, ↓reduceIte, Nat.reduceEqDiff, reduceCtorEq, AS, and_pred n h2 (by omega)]
    · simp (maxSteps := 1000000) (disch := omega) only [WS, List.getElem_cons_zero, List.getElem_cons_succ, Option.isNone_some, Option.isNone_none, List.getD_cons_zero, List.getD_cons_succ, I.at, atL, atO, atP, evp, evs, retV, ↓reduceIte, Nat.reduceEqDiff, reduceCtorEq, AS]
  · simp (maxSteps := 1000000) (disch := omega) only [WS, List.getElem_cons_zero, List.getElem_cons_succ, Option.isNone_some, Option.isNone_none, List.getD_cons_zero, List.getD_cons_succ, I.at, atL, atO, atP, evp, evs, retV, ↓reduceIte, Nat.reduceEqDiff, reduceCtorEq, AS]
/-- Does a coset of n begin at a, with len points from there on? -/
def isC (a : Int) (n len : Nat) : Bool := decide (0 ≤ a ∧ len ≤ 65536 ∧ a ≤ 65536 - (len : Int) ∧ a.toNat % n = 0)
theorem afft_begins_spec (w : World) (a : Int) (n len : Nat) (hn : n ≠ 0) : CallV Try.prog 35 [.int .i64 a, .int .i64 (n : Int), .int .i64 (len : Int)] w fun v w' => v = .bool (isC a n len) ∧ w' = w := by
  refine run_afft_begins (by simp) ?_
  simp only [c_afft_begins, WS, List.getElem_cons_zero, List.getElem_cons_succ, Option.isNone_some, Option.isNone_none, List.getD_cons_zero, List.getD_cons_succ, I.at, atL, atO, atP, evp, evs, retV, ↓reduceIte, Nat.reduceEqDiff, reduceCtorEq]
  unfold isC
  by_cases h1 : 0 ≤ a
  · obtain ⟨a, rfl⟩ : ∃ m : Nat, a = (m : Int) := ⟨a.toNat, by omega⟩
    by_cases h2 : len ≤ 65536
    · have e1 : IntKind.i64.wrap (65536 - (len : Int)) = ((65536 - len : Nat) : Int) := by rw [wrap_id (by omega) (by omega)]; omega
      by_cases h3 : a ≤ 65536 - len
      · have e : decide (((a % n : Nat) : Int) = 0) = decide (0 ≤ (a : Int) ∧ len ≤ 65536 ∧ (a : Int) ≤ 65536 - (len : Int) ∧ (a : Int).toNat % n = 0) := by
          rw [Int.toNat_natCast]
          exact decide_eq_decide.2 ⟨fun h => ⟨h1, by omega, by omega, by omega⟩, fun h => by omega⟩
        rw [← e]
        have hn' : ((n : Int) ≠ 0) = True := eq_true (by omega)
        simp (maxSteps := 1000000) (disch := omega) only [WS, List.getElem_cons_zero, List.getElem_cons_succ, Option.isNone_some, Option.isNone_none, List.getD_cons_zero, List.getD_cons_succ, I.at, atL, atO, atP, evp, evs, retV, ↓reduceIte, Nat.reduceEqDiff, reduceCtorEq, AS, e1, X_rem, hn', tmod_nat]
      · simp (maxSteps := 1000000) (disch := omega) only [WS, List.getElem_cons_zero, List.getElem_cons_succ, Option.isNone_some, Option.isNone_none, List.getD_cons_zero, List.getD_cons_succ, I.at, atL, atO, atP, evp, evs, retV, ↓reduceIte, Nat.reduceEqDiff, reduceCtorEq, AS, e1]
    · simp (maxSteps := 1000000) (disch := omega) only [WS, List.getElem_cons_zero, List.getElem_cons_succ, Option.isNone_some, Option.isNone_none, List.getD_cons_zero, List.getD_cons_succ, I.at, atL, atO, atP, evp, evs, retV, ↓reduceIte, Nat.reduceEqDiff, reduceCtorEq, AS]
  · simp (maxSteps := 1000000) (disch := omega) only [WS, List.getElem_cons_zero, List.getElem_cons_succ, Option.isNone_some, Option.isNone_none, List.getD_cons_zero, List.getD_cons_succ, I.at, atL, atO, atP, evp, evs, retV, ↓reduceIte, Nat.reduceEqDiff, reduceCtorEq, AS]
theorem afft_levels_spec (w : World) (k : Nat) (hk : k ≤ 16) : CallV Try.prog 38 [.int .i64 ((2 ^ k : Nat) : Int)] w fun v w' => v = .int .i64 ((k : Int) - 1) ∧ w' = w := by
  refine run_afft_levels (by simp) ?_
  simp only [c_afft_levels, WS, List.getElem_cons_zero, List.getElem_cons_succ, Option.isNone_some, Option.isNone_none, List.getD_cons_zero, List.getD_cons_succ, I.at, atL, atO, atP, evp, evs, retV, ↓reduceIte, Nat.reduceEqDiff, reduceCtorEq]
  refine loop_of (fun t w' => w' = w ∧ ∃ j : Nat, t 0 = .int .i64 ((2 ^ j : Nat) : Int) ∧ j ≤ k ∧ t 3 = .int .i64 ((k : Int) - 1 - (j : Int))) (fun t _ => (toI (t 0)).toNat) ⟨rfl, k, by simp only [WS, List.getElem_cons_zero, List.getElem_cons_succ, Option.isNone_some, Option.isNone_none, List.getD_cons_zero, List.getD_cons_succ, I.at, atL, atO, atP, evp, evs, retV, ↓reduceIte, Nat.reduceEqDiff, reduceCtorEq], by omega, by rw [show (k : Int) - 1 - (k : Int) = -1 by omega]; simp only [WS, List.getElem_cons_zero, List.getElem_cons_succ, Option.isNone_some, Option.isNone_none, List.getD_cons_zero, List.getD_cons_succ, I.at, atL, atO, atP, evp, evs, retV, ↓reduceIte, Nat.reduceEqDiff, reduceCtorEq]⟩ ?_
  rintro t w' ⟨rfl, j, t0, hj, t3⟩
  have hp := Nat.two_pow_pos j
  cases j with
  | zero =>
    simp (maxSteps := 1000000) (disch := omega) only [WS, List.getElem_cons_zero, List.getElem_cons_succ, Option.isNone_some, Option.isNone_none, List.getD_cons_zero, List.getD_cons_succ, I.at, atL, atO, atP, evp, evs, retV, ↓reduceIte, Nat.reduceEqDiff, reduceCtorEq, AS, t0, t3, show decide ((1 : Int) < ((2 ^ 0 : Nat) : Int)) = false from rfl]
    rw [show (k : Int) - 1 - ((0 : Nat) : Int) = (k : Int) - 1 by omega]
  | succ j =>
    have hp2 : 2 ^ (j + 1) = 2 ^ j * 2 := Nat.pow_succ 2 j
    have hp3 := Nat.two_pow_pos j
    have hp4 : 2 ^ (j + 1) ≤ 2 ^ 16 := Nat.pow_le_pow_right (by omega) (by omega)
    have e2 : IntKind.i64.wrap (((2 ^ (j + 1) : Nat) : Int).tdiv 2) = ((2 ^ j : Nat) : Int) := by
      rw [show (2 : Int) = ((2 : Nat) : Int) from rfl, tdiv_nat, hp2, Nat.mul_div_cancel _ (by omega), wrap_64 _ (by omega)]
    have e3 : IntKind.i64.wrap ((k : Int) - 1 - ((j + 1 : Nat) : Int) + 1) = (k : Int) - 1 - (j : Int) := by rw [wrap_id (by omega) (by omega)]; omega
    simp (maxSteps := 1000000) (disch := omega) only [WS, List.getElem_cons_zero, List.getElem_cons_succ, Option.isNone_some, Option.isNone_none, List.getD_cons_zero, List.getD_cons_succ, I.at, atL, atO, atP, evp, evs, retV, ↓reduceIte, Nat.reduceEqDiff, reduceCtorEq, AS, t0, t3, X_quo, e2, e3, show ((2 : Int) ≠ 0) = True from eq_true (by decide)]
    refine ⟨⟨j, rfl, by omega, rfl⟩, ?_⟩
    simp only [Int.toNat_natCast]
    omega
theorem afft_skew_spec (w : World) (t j : Nat) (ht : t ≤ 16) (hj : j < 65536) : CallV Try.prog 37 [.int .i64 (t : Int), .int .i64 (j : Int)] w fun v w' => v = .int .u16 ((wel (j >>> t)).v.toNat : Int) ∧ RowKit.Below w.heap.size w w' := by
  refine run_afft_skew (by simp) ?_
  simp only [c_afft_skew, WS, List.getElem_cons_zero, List.getElem_cons_succ, Option.isNone_some, Option.isNone_none, List.getD_cons_zero, List.getD_cons_succ, I.at, atL, atO, atP, evp, evs, retV, ↓reduceIte, Nat.reduceEqDiff, reduceCtorEq]
  refine X_call0 ((lch_Skew_spec w t j).mono ?_)
  rintro _ w1 ⟨hB, ⟨-, -, -, -, rfl⟩ | ⟨hn, -⟩ | ⟨-, -, hn, -⟩⟩
  · simp (maxSteps := 1000000) (disch := omega) only [WS, List.getElem_cons_zero, List.getElem_cons_succ, Option.isNone_some, Option.isNone_none, List.getD_cons_zero, List.getD_cons_succ, I.at, atL, atO, atP, evp, evs, retV, ↓reduceIte, Nat.reduceEqDiff, reduceCtorEq, AS, Int.toNat_natCast]
    exact hB
  · exact absurd ⟨by omega, by omega⟩ hn
  · exact absurd ⟨by omega, by omega⟩ hn
end Go.Proofs.Ytpmfeaajpjjfiaa.Fw
