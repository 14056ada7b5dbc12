import Derived.Test.YtikaanmmdemaiaaProg
import Derived.Test.YtikaanmmdemaiaaFwTD
import Derived.Test.YtikaanmmdemaiaaSQeD
set_option linter.all false
set_option linter.unusedVariables false
set_option linter.unusedSimpArgs false
set_option maxRecDepth 100000
set_option maxHeartbeats 1000000
namespace Go.Proofs.Ytikaanmmdemaiaa.Fw
open Go Go.Fw Go.Proofs
attribute [local irreducible] stepI
def c_cullettop_WholeDerives : C := .seq (.ops [⟨0, (some 2), none, .mov (.c (.bool false)), []⟩]) (.seq (.ops [⟨0, (some 10), none, .bsl 26 2 [.int .u16 0] [(0, (1, .c (.int .u16 4))), (1, (1, .c (.int .u16 9)))], []⟩, ⟨1, (some 11), none, .call (.c (.func (.func 20) #[] #[])) [.t 10], []⟩, ⟨2, (some 9), none, .mov (.t 11), []⟩, ⟨3, (some 12), none, .ext (.t 9) 0, []⟩, ⟨4, (some 13), none, .ext (.t 9) 1, []⟩, ⟨5, (some 3), none, .mov (.t 12), []⟩, ⟨6, (some 4), none, .mov (.t 13), []⟩]) (.seq (.seq (.ops [⟨0, (some 14), none, .mov (.t 4), []⟩, ⟨1, (some 15), none, .bin .neq (.t 14) (.c (.int .i64 0)), []⟩, ⟨2, (some 16), none, .mov (.t 15), []⟩, ⟨3, (some 17), (some (16, false)), .mov (.t 3), []⟩, ⟨4, (some 18), (some (16, false)), .bsl 26 2 [.int .u16 0] [(0, (1, .c (.int .u16 9))), (1, (1, .c (.int .u16 0)))], []⟩, ⟨5, (some 19), (some (16, false)), .call (.c (.func (.func 9) #[] #[])) [.t 17, .t 18], []⟩, ⟨6, (some 20), (some (16, false)), .un .not (.t 19), []⟩, ⟨7, (some 21), none, .pick (.t 16) (.c (.bool true)) (.t 20), []⟩]) (.ite (.t 21) (.seq (.ops [⟨0, (some 2), none, .mov (.c (.bool false)), []⟩]) .ret) .skip)) (.seq (.ops [⟨0, (some 22), none, .mov (.t 0), []⟩, ⟨1, (some 23), none, .call (.c (.func (.func 10) #[] #[])) [.t 22, .c (.int .i64 256)], []⟩, ⟨2, (some 0), none, .mov (.t 23), []⟩]) (.seq (.ops [⟨0, (some 24), none, .call (.c (.func (.func 13) #[] #[])) [], []⟩, ⟨1, (some 5), none, .mov (.t 24), []⟩]) (.seq (.ops [⟨0, (some 26), none, .mov (.t 0), []⟩, ⟨1, (some 27), none, .call (.c (.func (.func 21) #[] #[])) [.t 26], []⟩, ⟨2, (some 25), none, .mov (.t 27), []⟩, ⟨3, (some 28), none, .ext (.t 25) 0, []⟩, ⟨4, (some 29), none, .ext (.t 25) 1, []⟩, ⟨5, (some 6), none, .mov (.t 28), []⟩, ⟨6, (some 4), none, .mov (.t 29), []⟩]) (.seq (.seq (.ops [⟨0, (some 30), none, .mov (.t 4), []⟩, ⟨1, (some 31), none, .bin .neq (.t 30) (.c (.int .i64 0)), []⟩, ⟨2, (some 32), none, .mov (.t 31), []⟩, ⟨3, (some 33), (some (32, false)), .mov (.t 6), []⟩, ⟨4, (some 34), (some (32, false)), .len (.t 33), []⟩, ⟨5, (some 35), (some (32, false)), .mov (.t 0), []⟩, ⟨6, (some 36), (some (32, false)), .len (.t 35), []⟩, ⟨7, (some 37), (some (32, false)), .bin .neq (.t 34) (.t 36), []⟩, ⟨8, (some 38), none, .pick (.t 32) (.c (.bool true)) (.t 37), []⟩]) (.ite (.t 38) (.seq (.ops [⟨0, (some 2), none, .mov (.c (.bool false)), []⟩]) .ret) .skip)) (.seq (.ops [⟨0, (some 40), none, .mov (.t 0), []⟩, ⟨1, (some 41), none, .call (.c (.func (.func 20) #[] #[])) [.t 40], []⟩, ⟨2, (some 39), none, .mov (.t 41), []⟩, ⟨3, (some 42), none, .ext (.t 39) 0, []⟩, ⟨4, (some 43), none, .ext (.t 39) 1, []⟩, ⟨5, (some 7), none, .mov (.t 42), []⟩, ⟨6, (some 4), none, .mov (.t 43), []⟩]) (.seq (.seq (.ops [⟨0, (some 44), none, .mov (.t 4), []⟩, ⟨1, (some 45), none, .bin .neq (.t 44) (.c (.int .i64 0)), []⟩]) (.ite (.t 45) (.seq (.ops [⟨0, (some 2), none, .mov (.c (.bool false)), []⟩]) .ret) .skip)) (.seq (.ops [⟨0, (some 47), none, .mov (.t 7), []⟩, ⟨1, (some 48), none, .call (.c (.func (.func 21) #[] #[])) [.t 47], []⟩, ⟨2, (some 46), none, .mov (.t 48), []⟩, ⟨3, (some 49), none, .ext (.t 46) 0, []⟩, ⟨4, (some 50), none, .ext (.t 46) 1, []⟩, ⟨5, (some 8), none, .mov (.t 49), []⟩, ⟨6, (some 4), none, .mov (.t 50), []⟩]) (.seq (.ops [⟨0, (some 51), none, .mov (.t 4), []⟩, ⟨1, (some 52), none, .bin .eql (.t 51) (.c (.int .i64 0)), []⟩, ⟨2, (some 53), none, .mov (.t 52), []⟩, ⟨3, (some 54), (some (53, true)), .mov (.t 5), []⟩, ⟨4, (some 55), (some (53, true)), .mov (.t 8), []⟩, ⟨5, (some 56), (some (53, true)), .call (.c (.func (.func 22) #[] #[])) [.t 54, .t 55], []⟩, ⟨6, (some 57), (some (53, true)), .mov (.t 5), []⟩, ⟨7, (some 58), (some (53, true)), .mov (.t 6), []⟩, ⟨8, (some 59), (some (53, true)), .call (.c (.func (.func 23) #[] #[])) [.t 57, .t 58], []⟩, ⟨9, (some 60), (some (53, true)), .call (.c (.func (.func 9) #[] #[])) [.t 56, .t 59], []⟩, ⟨10, (some 61), none, .pick (.t 53) (.t 60) (.c (.bool false)), []⟩, ⟨11, (some 2), none, .mov (.t 61), []⟩]) .ret))))))))))
attribute [irreducible] c_cullettop_WholeDerives
theorem run_cullettop_WholeDerives {args : List Value} {w : World} {K : Value → World → Prop} (hn : args.length ≤ 62) (h : WP Try.prog c_cullettop_WholeDerives (endQ [.t 2] K) (initT args) w) : CallV Try.prog 5 args w K :=
  call_of follows Try.func5 (by kernel_rfl) (by kernel_rfl) hn h
def c_cullettop_words : C := .seq (.ops [⟨0, (some 4), none, .mov (.c (.bool false)), []⟩]) (.seq (.seq (.ops [⟨0, (some 6), none, .mov (.t 0), []⟩, ⟨1, (some 7), none, .len (.t 6), []⟩, ⟨2, (some 8), none, .mov (.t 1), []⟩, ⟨3, (some 9), none, .len (.t 8), []⟩, ⟨4, (some 10), none, .bin .neq (.t 7) (.t 9), []⟩]) (.ite (.t 10) (.seq (.ops [⟨0, (some 4), none, .mov (.c (.bool false)), []⟩]) .ret) .skip)) (.seq (.seq (.ops [⟨0, (some 11), none, .mov (.t 0), []⟩, ⟨1, (some 12), none, .len (.t 11), []⟩, ⟨2, (some 13), none, .mov (.c (.int .i64 0)), []⟩]) (.block 0 (.loop (.seq (.ops [⟨0, (some 14), none, .bin .lss (.t 13) (.t 12), []⟩]) (.seq (.ite (.t 14) .skip (.exit 0)) (.seq (.block 1 (.seq (.ops [⟨0, (some 15), none, .mov (.t 13), []⟩, ⟨1, (some 5), none, .mov (.t 15), []⟩]) (.seq (.dops [⟨0, (some 16), none, .mov (.t 0), []⟩, ⟨1, (some 17), none, .mov (.t 5), []⟩, ⟨2, (some 18), none, .ixs 1 (.t 16) (.t 17), []⟩, ⟨3, (some 19), none, .ld (.t 18), []⟩, ⟨4, (some 20), none, .mov (.t 1), []⟩, ⟨5, (some 21), none, .mov (.t 5), []⟩, ⟨6, (some 22), none, .ixs 1 (.t 20) (.t 21), []⟩, ⟨7, (some 23), none, .ld (.t 22), []⟩, ⟨8, (some 24), none, .bin .neq (.t 19) (.t 23), []⟩]) (.ite (.t 24) (.seq (.ops [⟨0, (some 4), none, .mov (.c (.bool false)), []⟩]) .ret) .skip)))) (.ops [⟨0, (some 25), none, .bin .add (.t 13) (.c (.int .i64 1)), []⟩, ⟨1, (some 13), none, .mov (.t 25), []⟩]))))))) (.seq (.ops [⟨0, (some 4), none, .mov (.c (.bool true)), []⟩]) .ret)))
attribute [irreducible] c_cullettop_words
theorem run_cullettop_words {args : List Value} {w : World} {K : Value → World → Prop} (hn : args.length ≤ 26) (h : WP Try.prog c_cullettop_words (endQ [.t 4] K) (initT args) w) : CallV Try.prog 9 args w K :=
  call_of follows Try.func9 (by kernel_rfl) (by kernel_rfl) hn h
def c_cullettop_square : C := .seq (.ops [⟨0, (some 4), none, .mov (.c (.slice none 0 0)), []⟩]) (.seq (.ops [⟨0, (some 5), none, .mov (.c (.int .i64 1)), []⟩]) (.seq (.block 0 (.loop (.seq (.seq (.ops [⟨0, (some 7), none, .mov (.t 5), []⟩, ⟨1, (some 8), none, .mov (.t 0), []⟩, ⟨2, (some 9), none, .len (.t 8), []⟩, ⟨3, (some 10), none, .bin .lss (.t 7) (.t 9), []⟩, ⟨4, (some 11), none, .mov (.t 10), []⟩, ⟨5, (some 12), (some (11, true)), .mov (.t 5), []⟩, ⟨6, (some 13), (some (11, true)), .mov (.t 1), []⟩, ⟨7, (some 14), (some (11, true)), .bin .lss (.t 12) (.t 13), []⟩, ⟨8, (some 15), none, .pick (.t 11) (.t 14) (.c (.bool false)), []⟩]) (.ite (.t 15) .skip (.exit 0))) (.block 1 (.ops [⟨0, (some 16), none, .mov (.t 5), []⟩, ⟨1, (some 17), none, .bin .mul (.t 16) (.c (.int .i64 2)), []⟩, ⟨2, (some 5), none, .mov (.t 17), []⟩]))))) (.seq (.ops [⟨0, (some 18), none, .mov (.t 5), []⟩, ⟨1, (some 19), none, .mks 26 2 [.int .u16 0] (.t 18) (.t 18), []⟩, ⟨2, (some 6), none, .mov (.t 19), []⟩]) (.seq (.ops [⟨0, (some 20), none, .mov (.t 6), []⟩, ⟨1, (some 21), none, .mov (.t 0), []⟩, ⟨2, (some 22), none, .cpy 1 (.t 20) (.t 21), []⟩]) (.seq (.ops [⟨0, (some 23), none, .mov (.t 6), []⟩, ⟨1, (some 4), none, .mov (.t 23), []⟩]) .ret)))))
attribute [irreducible] c_cullettop_square
theorem run_cullettop_square {args : List Value} {w : World} {K : Value → World → Prop} (hn : args.length ≤ 24) (h : WP Try.prog c_cullettop_square (endQ [.t 4] K) (initT args) w) : CallV Try.prog 10 args w K :=
  call_of follows Try.func10 (by kernel_rfl) (by kernel_rfl) hn h
end Go.Proofs.Ytikaanmmdemaiaa.Fw
namespace Go.Proofs.Ytikaanmmdemaiaa.Fw
open Go Go.Fw
theorem cullettop_words_spec (w : World) (s1 s2 : Value) (l1 l2 : List (El 16)) (h1 : Sl w s1 l1) (h2 : Sl w s2 l2) (hb : l1.length ≤ 140737488355328) (hb2 : l2.length ≤ 140737488355328) :
    CallV Try.prog 9 [s1, s2] w fun v w' => v = .bool (decide (l1 = l2)) ∧ Like w w' := by
  refine run_cullettop_words (by simp) ?_
  simp only [c_cullettop_words, WS, List.getElem_cons_zero, List.getElem_cons_succ, Option.isNone_some, Option.isNone_none, List.getD_cons_zero, List.getD_cons_succ, I.at, atL, atO, atP, evp, evs, retV, ↓reduceIte, Nat.reduceEqDiff, reduceCtorEq, h1.Xlen, h2.Xlen]
  by_cases hl : l1.length = l2.length
  · simp only [WS, List.getElem_cons_zero, List.getElem_cons_succ, Option.isNone_some, Option.isNone_none, List.getD_cons_zero, List.getD_cons_succ, I.at, atL, atO, atP, evp, evs, retV, ↓reduceIte, Nat.reduceEqDiff, reduceCtorEq, show decide ((l1.length : Int) = (l2.length : Int)) = true from decide_eq_true (by omega), h1.Xlen]
    refine loop_of (fun t w' => Like w w' ∧ t 0 = s1 ∧ t 1 = s2 ∧ t 12 = .int .i64 (l1.length : Int) ∧ ∃ i : Nat, t 13 = .int .i64 (i : Int) ∧ i ≤ l1.length ∧ l1.take i = l2.take i) (fun t _ => l1.length - (toI (t 13)).toNat) ⟨Like.refl w, rfl, rfl, rfl, 0, rfl, by omega, by simp⟩ ?_
    rintro t w' ⟨hk, t0, t1, t12, i, t13, hi, he⟩
    have g1 := hk.sl h1
    have g2 := hk.sl h2
    by_cases hlt : i < l1.length
    · have hlt2 : i < l2.length := by omega
      simp only [WS, List.getElem_cons_zero, List.getElem_cons_succ, Option.isNone_some, Option.isNone_none, List.getD_cons_zero, List.getD_cons_succ, I.at, atL, atO, atP, evp, evs, retV, ↓reduceIte, Nat.reduceEqDiff, reduceCtorEq, t0, t1, t12, t13, g1.Xlen, show decide ((i : Int) < (l1.length : Int)) = true from decide_eq_true (by omega)]
      refine WP_dops ?_
      simp only [ES, List.mem_cons, List.not_mem_nil, implies_true, forall_const, WS, List.getElem_cons_zero, List.getElem_cons_succ, Option.isNone_some, Option.isNone_none, List.getD_cons_zero, List.getD_cons_succ, I.at, atL, atO, atP, evp, evs, retV, ↓reduceIte, Nat.reduceEqDiff, reduceCtorEq, t0, t1, t12, t13, g1.drew.Eix hlt, g1.drew.Eld hlt, g2.drew.Eix hlt2, g2.drew.Eld hlt2, cell_e16, el_eq]
      by_cases hx : l1[i] = l2[i]
      · simp only [WS, List.getElem_cons_zero, List.getElem_cons_succ, Option.isNone_some, Option.isNone_none, List.getD_cons_zero, List.getD_cons_succ, I.at, atL, atO, atP, evp, evs, retV, ↓reduceIte, Nat.reduceEqDiff, reduceCtorEq, t0, t1, t12, t13, decide_eq_true hx, wrap_id (show -9223372036854775808 ≤ (i : Int) + 1 by omega) (show (i : Int) + 1 < 9223372036854775808 by omega), toI_int]
        refine ⟨⟨hk.trans (Like.drew _), i + 1, rfl, by omega, ?_⟩, by omega⟩
        rw [List.take_add_one, List.take_add_one, he, List.getElem?_eq_getElem hlt, List.getElem?_eq_getElem hlt2, hx]
      · have : ¬ l1 = l2 := fun e => hx (by subst e; rfl)
        simp only [WS, List.getElem_cons_zero, List.getElem_cons_succ, Option.isNone_some, Option.isNone_none, List.getD_cons_zero, List.getD_cons_succ, I.at, atL, atO, atP, evp, evs, retV, ↓reduceIte, Nat.reduceEqDiff, reduceCtorEq, t0, t1, t12, t13, decide_eq_false hx, decide_eq_false this]
        exact hk.trans (Like.drew _)
    · rw [List.take_of_length_le (by omega), List.take_of_length_le (by omega)] at he
      simp only [WS, List.getElem_cons_zero, List.getElem_cons_succ, Option.isNone_some, Option.isNone_none, List.getD_cons_zero, List.getD_cons_succ, I.at, atL, atO, atP, evp, evs, retV, ↓reduceIte, Nat.reduceEqDiff, reduceCtorEq, t0, t1, t12, t13, g1.Xlen, show decide ((i : Int) < (l1.length : Int)) = false from decide_eq_false (by omega), decide_eq_true he]
      exact hk
  · have : ¬ l1 = l2 := fun e => hl (by rw [e])
    simp only [WS, List.getElem_cons_zero, List.getElem_cons_succ, Option.isNone_some, Option.isNone_none, List.getD_cons_zero, List.getD_cons_succ, I.at, atL, atO, atP, evp, evs, retV, ↓reduceIte, Nat.reduceEqDiff, reduceCtorEq, show decide ((l1.length : Int) = (l2.length : Int)) = false from decide_eq_false (by omega), decide_eq_false this]
    exact Like.refl w
end Go.Proofs.Ytikaanmmdemaiaa.Fw

namespace Go.Proofs.Ytikaanmmdemaiaa.Fw
open Go Go.Fw
theorem cullettop_square_spec (w : World) (s : Value) (l : List (El 16)) (K : Nat) (hK : K ≤ 16) (h : Sl w s l) (hb : l.length ≤ 70368744175616) :
    CallV Try.prog 10 [s, .int .i64 ((2 ^ K : Nat) : Int)] w fun v w' => RowKit.Below w.heap.size w w' ∧ ∃ (k : Nat) (m : List (El 16)), k ≤ K ∧ Ow w.heap.size w' v m ∧ m.length = 2 ^ k := by
  have hK16 := pow_le16' hK
  refine run_cullettop_square (by simp) ?_
  simp only [c_cullettop_square, WS, List.getElem_cons_zero, List.getElem_cons_succ, Option.isNone_some, Option.isNone_none, List.getD_cons_zero, List.getD_cons_succ, I.at, atL, atO, atP, evp, evs, retV, ↓reduceIte, Nat.reduceEqDiff, reduceCtorEq]
  refine loop_of (fun t w' => t 0 = s ∧ t 1 = .int .i64 ((2 ^ K : Nat) : Int) ∧ w' = w ∧ ∃ k : Nat, k ≤ K ∧ t 5 = .int .i64 ((2 ^ k : Nat) : Int)) (fun t _ => 2 ^ K - (toI (t 5)).toNat) ⟨by simp only [WS, List.getElem_cons_zero, List.getElem_cons_succ, Option.isNone_some, Option.isNone_none, List.getD_cons_zero, List.getD_cons_succ, I.at, atL, atO, atP, evp, evs, retV, ↓reduceIte, Nat.reduceEqDiff, reduceCtorEq], by simp only [WS, List.getElem_cons_zero, List.getElem_cons_succ, Option.isNone_some, Option.isNone_none, List.getD_cons_zero, List.getD_cons_succ, I.at, atL, atO, atP, evp, evs, retV, ↓reduceIte, Nat.reduceEqDiff, reduceCtorEq], rfl, 0, by omega, rfl⟩ ?_
  rintro t w' ⟨t0, t1, rfl, k, hk, t5⟩
  have hk16 := pow_le16' (Nat.le_trans hk hK)
  have hk0 := Nat.two_pow_pos k
  have hp : 2 ^ (k + 1) = 2 ^ k * 2 := Nat.pow_succ ..
  by_cases hc : 2 ^ k < l.length ∧ 2 ^ k < 2 ^ K
  · have hkK : k < K := by
      rcases Nat.lt_or_ge k K with h1 | h1
      · exact h1
      · have := Nat.pow_le_pow_right (show 0 < 2 by omega) h1; omega
    obtain ⟨hc1, hc2⟩ := hc
    simp (maxSteps := 1000000) (disch := omega) only [WS, List.getElem_cons_zero, List.getElem_cons_succ, Option.isNone_some, Option.isNone_none, List.getD_cons_zero, List.getD_cons_succ, I.at, atL, atO, atP, evp, evs, retV, ↓reduceIte, Nat.reduceEqDiff, reduceCtorEq, AS, t0, t1, t5, h.Xlen]
    exact ⟨⟨k + 1, by omega, by rw [hp]⟩, by omega⟩
  have fin : ∀ (sv : Value) (w1 : World), Ow w'.heap.size w1 sv (List.replicate (2 ^ k) (0 : El 16)) → RowKit.Below w'.heap.size w' w1 → True := fun _ _ _ _ => trivial
  by_cases hc1 : 2 ^ k < l.length
  · have hc2 : ¬ 2 ^ k < 2 ^ K := fun e => hc ⟨hc1, e⟩
    simp (maxSteps := 1000000) (disch := omega) only [WS, List.getElem_cons_zero, List.getElem_cons_succ, Option.isNone_some, Option.isNone_none, List.getD_cons_zero, List.getD_cons_succ, I.at, atL, atO, atP, evp, evs, retV, ↓reduceIte, Nat.reduceEqDiff, reduceCtorEq, AS, t0, t1, t5, h.Xlen]
    refine X_mks (x := (0 : El 16)) (by simp only [maxBytes]; omega) (by omega) fun sv w1 ov hB => ?_
    simp (maxSteps := 1000000) (disch := omega) only [WS, List.getElem_cons_zero, List.getElem_cons_succ, Option.isNone_some, Option.isNone_none, List.getD_cons_zero, List.getD_cons_succ, I.at, atL, atO, atP, evp, evs, retV, ↓reduceIte, Nat.reduceEqDiff, reduceCtorEq, AS, t0, t1, t5]
    refine ov.Xcpy (h.up hB) fun w2 ov2 hg => ?_
    simp (maxSteps := 1000000) (disch := omega) only [WS, List.getElem_cons_zero, List.getElem_cons_succ, Option.isNone_some, Option.isNone_none, List.getD_cons_zero, List.getD_cons_succ, I.at, atL, atO, atP, evp, evs, retV, ↓reduceIte, Nat.reduceEqDiff, reduceCtorEq, AS]
    exact ⟨hB.grown hg hB.size fun b hb => (ov.blk b hb).1, k, _, hk, ov2, by simp; omega⟩
  · simp (maxSteps := 1000000) (disch := omega) only [WS, List.getElem_cons_zero, List.getElem_cons_succ, Option.isNone_some, Option.isNone_none, List.getD_cons_zero, List.getD_cons_succ, I.at, atL, atO, atP, evp, evs, retV, ↓reduceIte, Nat.reduceEqDiff, reduceCtorEq, AS, t0, t1, t5, h.Xlen]
    refine X_mks (x := (0 : El 16)) (by simp only [maxBytes]; omega) (by omega) fun sv w1 ov hB => ?_
    simp (maxSteps := 1000000) (disch := omega) only [WS, List.getElem_cons_zero, List.getElem_cons_succ, Option.isNone_some, Option.isNone_none, List.getD_cons_zero, List.getD_cons_succ, I.at, atL, atO, atP, evp, evs, retV, ↓reduceIte, Nat.reduceEqDiff, reduceCtorEq, AS, t0, t1, t5]
    refine ov.Xcpy (h.up hB) fun w2 ov2 hg => ?_
    simp (maxSteps := 1000000) (disch := omega) only [WS, List.getElem_cons_zero, List.getElem_cons_succ, Option.isNone_some, Option.isNone_none, List.getD_cons_zero, List.getD_cons_succ, I.at, atL, atO, atP, evp, evs, retV, ↓reduceIte, Nat.reduceEqDiff, reduceCtorEq, AS]
    exact ⟨hB.grown hg hB.size fun b hb => (ov.blk b hb).1, k, _, hk, ov2, by simp; omega⟩
theorem cullettop_WholeDerives_spec (w : World) (s : Value) (l : List (El 16)) (h : Sl w s l) (hb : l.length ≤ 70368744175616) :
    CallV Try.prog 5 [s] w fun v w' => v = .bool true ∧ RowKit.Below w.heap.size w w' := by
  refine run_cullettop_WholeDerives (by simp) ?_
  simp only [c_cullettop_WholeDerives, WS, List.getElem_cons_zero, List.getElem_cons_succ, Option.isNone_some, Option.isNone_none, List.getD_cons_zero, List.getD_cons_succ, I.at, atL, atO, atP, evp, evs, retV, ↓reduceIte, Nat.reduceEqDiff, reduceCtorEq]
  refine X_bsl (zs := [(⟨4⟩ : El 16), ⟨9⟩]) (by rfl) (by rfl) fun c2 w1 oc hB => ?_
  have B := hB
  have h := h.up hB
  clear hB
  have oc := oc.sl
  simp (maxSteps := 1000000) (disch := omega) only [WS, List.getElem_cons_zero, List.getElem_cons_succ, Option.isNone_some, Option.isNone_none, List.getD_cons_zero, List.getD_cons_succ, I.at, atL, atO, atP, evp, evs, retV, ↓reduceIte, Nat.reduceEqDiff, reduceCtorEq, AS]
  refine X_call0 ((lch_Derivative_spec w1 c2 _ oc (by simp)).mono ?_)
  rintro _ w2 ⟨hB, ⟨k, hk, hlk, sv, d, rfl, od, dl, hd⟩ | ⟨hbad, -⟩⟩
  rotate_left
  · exact absurd ⟨by simp, by simp, by simp⟩ hbad
  obtain rfl : k = 1 := (Nat.pow_right_inj (a := 2) (by omega)).1 (show 2 ^ k = 2 ^ 1 from hlk.symm)
  have od := od.sl
  have h := h.up hB
  have B := B.trans (hB.mono B.size)
  clear hB
  clear oc
  have hdm : d = [⟨9⟩, ⟨0⟩] := (list_co dl hd).trans (by decide +kernel)
  simp (maxSteps := 1000000) (disch := omega) only [WS, List.getElem_cons_zero, List.getElem_cons_succ, Option.isNone_some, Option.isNone_none, List.getD_cons_zero, List.getD_cons_succ, I.at, atL, atO, atP, evp, evs, retV, ↓reduceIte, Nat.reduceEqDiff, reduceCtorEq, AS]
  refine X_bsl (zs := [(⟨9⟩ : El 16), ⟨0⟩]) (by rfl) (by rfl) fun c3 w3 oc hB => ?_
  have oc := oc.sl
  have h := h.up hB
  have od := od.up hB
  have B := B.trans (hB.mono B.size)
  clear hB
  simp (maxSteps := 1000000) (disch := omega) only [WS, List.getElem_cons_zero, List.getElem_cons_succ, Option.isNone_some, Option.isNone_none, List.getD_cons_zero, List.getD_cons_succ, I.at, atL, atO, atP, evp, evs, retV, ↓reduceIte, Nat.reduceEqDiff, reduceCtorEq, AS]
  refine X_call0 ((cullettop_words_spec w3 sv c3 _ _ od oc (by omega) (by simp)).mono ?_)
  rintro _ w4 ⟨rfl, hk⟩
  have hB := hk.1
  have h := h.up hB
  have B := B.trans (hB.mono B.size)
  clear hB
  clear hk od oc
  rw [decide_eq_true hdm]
  simp (maxSteps := 1000000) (disch := omega) only [WS, List.getElem_cons_zero, List.getElem_cons_succ, Option.isNone_some, Option.isNone_none, List.getD_cons_zero, List.getD_cons_succ, I.at, atL, atO, atP, evp, evs, retV, ↓reduceIte, Nat.reduceEqDiff, reduceCtorEq, AS]
  refine X_call0 ((cullettop_square_spec w4 s l 8 (by omega) h hb).mono ?_)
  rintro sq w5 ⟨hB, k, q, hk, oq, ql⟩
  have oq := oq.sl
  have B := B.trans (hB.mono B.size)
  clear hB
  simp (maxSteps := 1000000) (disch := omega) only [WS, List.getElem_cons_zero, List.getElem_cons_succ, Option.isNone_some, Option.isNone_none, List.getD_cons_zero, List.getD_cons_succ, I.at, atL, atO, atP, evp, evs, retV, ↓reduceIte, Nat.reduceEqDiff, reduceCtorEq, AS]
  refine X_call0 ((polys_Over16_spec w5).mono ?_)
  rintro r w6 ⟨hr, hB, -⟩
  have oq := oq.up hB
  have B := B.trans (hB.mono B.size)
  clear hB
  have h8 : 2 ^ k ≤ 256 := by have : 2 ^ k ≤ 2 ^ 8 := Nat.pow_le_pow_right (by omega) hk; omega
  have h0 := Nat.two_pow_pos k
  have ok : 1 ≤ q.length ∧ q.length ≤ 256 ∧ q.length &&& (q.length - 1) = 0 := ⟨by omega, by omega, by rw [ql]; exact and_pred_pow k⟩
  have pk : ∀ {k2 : Nat} {n : Nat}, n = 2 ^ k2 → n = 2 ^ k → k2 = k := fun h1 h2 => (Nat.pow_right_inj (a := 2) (by omega)).1 (h1.symm.trans h2)
  simp (maxSteps := 1000000) (disch := omega) only [WS, List.getElem_cons_zero, List.getElem_cons_succ, Option.isNone_some, Option.isNone_none, List.getD_cons_zero, List.getD_cons_succ, I.at, atL, atO, atP, evp, evs, retV, ↓reduceIte, Nat.reduceEqDiff, reduceCtorEq, AS]
  refine X_call0 ((lch_ToMonomials_spec w6 sq q oq (by omega)).mono ?_)
  rintro _ w7 ⟨hB, ⟨k2, -, hlk2, sf, f, rfl, of, fl, hf⟩ | ⟨hbad, -⟩⟩
  rotate_left
  · exact absurd ok hbad
  obtain rfl := pk hlk2 ql
  have of := of.sl
  have oq := oq.up hB
  have hr := hr.up hB
  have B := B.trans (hB.mono B.size)
  clear hB
  have dk : (!decide (((2 ^ k2 : Nat) : Int) = ((2 ^ k2 : Nat) : Int))) = false := by rw [decide_eq_true rfl]; rfl
  have d0 : (!decide (((0 : Nat) : Int) = 0)) = false := rfl
  simp (maxSteps := 1000000) (disch := omega) only [WS, List.getElem_cons_zero, List.getElem_cons_succ, Option.isNone_some, Option.isNone_none, List.getD_cons_zero, List.getD_cons_succ, I.at, atL, atO, atP, evp, evs, retV, ↓reduceIte, Nat.reduceEqDiff, reduceCtorEq, AS, of.Xlen, fl, oq.Xlen, ql, dk]
  refine X_call0 ((lch_Derivative_spec w7 sq q oq (by omega)).mono ?_)
  rintro _ w8 ⟨hB, ⟨k3, -, hlk3, sc, c, rfl, oc, cl, hc⟩ | ⟨hbad, -⟩⟩
  rotate_left
  · exact absurd ⟨ok.1, by omega, ok.2.2⟩ hbad
  obtain rfl := pk hlk3 ql
  have oc := oc.sl
  have of := of.up hB
  have hr := hr.up hB
  have B := B.trans (hB.mono B.size)
  clear hB
  simp (maxSteps := 1000000) (disch := omega) only [WS, List.getElem_cons_zero, List.getElem_cons_succ, Option.isNone_some, Option.isNone_none, List.getD_cons_zero, List.getD_cons_succ, I.at, atL, atO, atP, evp, evs, retV, ↓reduceIte, Nat.reduceEqDiff, reduceCtorEq, AS]
  refine X_call0 ((lch_ToMonomials_spec w8 sc c oc (by omega)).mono ?_)
  rintro _ w9 ⟨hB, ⟨k4, -, hlk4, sg, g, rfl, og, gl, hg⟩ | ⟨hbad, -⟩⟩
  rotate_left
  · exact absurd ⟨by omega, by omega, by rw [cl]; exact and_pred_pow k3⟩ hbad
  obtain rfl := pk hlk4 cl
  have og := og.sl
  have of := of.up hB
  have hr := hr.up hB
  have B := B.trans (hB.mono B.size)
  clear hB
  simp (maxSteps := 1000000) (disch := omega) only [WS, List.getElem_cons_zero, List.getElem_cons_succ, Option.isNone_some, Option.isNone_none, List.getD_cons_zero, List.getD_cons_succ, I.at, atL, atO, atP, evp, evs, retV, ↓reduceIte, Nat.reduceEqDiff, reduceCtorEq, AS]
  refine X_call0 ((polys_Ring_w_Trim_spec w9 r sg g hr og (by omega)).mono ?_)
  rintro sy w13 ⟨oy, hB⟩
  have oy := oy.sl
  have of := of.up hB
  have hr := hr.up hB
  have B := B.trans (hB.mono B.size)
  clear hB
  simp (maxSteps := 1000000) (disch := omega) only [WS, List.getElem_cons_zero, List.getElem_cons_succ, Option.isNone_some, Option.isNone_none, List.getD_cons_zero, List.getD_cons_succ, I.at, atL, atO, atP, evp, evs, retV, ↓reduceIte, Nat.reduceEqDiff, reduceCtorEq, AS]
  refine X_call0 ((polys_Ring_w_Derivative_spec w13 r sf f hr of (by omega)).mono ?_)
  rintro sx w12 ⟨x, ox, tx, cx, xl, hB⟩
  have ox := ox.sl
  have oy := oy.up hB
  have B := B.trans (hB.mono B.size)
  clear hB
  have hty := tln_le g
  have heq : tr g = x := (tr_inj tx (tr_tr g) (by rw [cx, hf, mP_D, tr_co, hg]; exact (mP_congr fun j hj => hc j hj).symm)).symm
  simp (maxSteps := 1000000) (disch := omega) only [WS, List.getElem_cons_zero, List.getElem_cons_succ, Option.isNone_some, Option.isNone_none, List.getD_cons_zero, List.getD_cons_succ, I.at, atL, atO, atP, evp, evs, retV, ↓reduceIte, Nat.reduceEqDiff, reduceCtorEq, AS]
  refine X_call0 ((cullettop_words_spec w12 sy sx (tr g) x oy ox (by rw [tr_len]; omega) (by omega)).mono ?_)
  rintro _ w14 ⟨rfl, hk⟩
  have hB := hk.1
  have B := B.trans (hB.mono B.size)
  clear hB
  rw [decide_eq_true heq]
  simp (maxSteps := 1000000) (disch := omega) only [WS, List.getElem_cons_zero, List.getElem_cons_succ, Option.isNone_some, Option.isNone_none, List.getD_cons_zero, List.getD_cons_succ, I.at, atL, atO, atP, evp, evs, retV, ↓reduceIte, Nat.reduceEqDiff, reduceCtorEq, AS]
  exact B
end Go.Proofs.Ytikaanmmdemaiaa.Fw
