import Derived.Test.YtikaanmmdemaiaaProg
import Derived.Test.YtikaanmmdemaiaaFwTR
import Derived.Test.YtikaanmmdemaiaaSQeR
set_option linter.all false
set_option linter.unusedVariables false
set_option linter.unusedSimpArgs false
set_option maxRecDepth 100000
set_option maxHeartbeats 1000000
namespace Go.Proofs.Ytikaanmmdemaiaa.Fw
open Go Go.Fw Go.Proofs
attribute [local irreducible] stepI
def c_cullettop_words : C := .seq (.ops [⟨0, (some 4), none, .mov (.c (.bool false)), []⟩]) (.seq (.seq (.ops [⟨0, (some 6), none, .mov (.t 0), []⟩, ⟨1, (some 7), none, .len (.t 6), []⟩, ⟨2, (some 8), none, .mov (.t 1), []⟩, ⟨3, (some 9), none, .len (.t 8), []⟩, ⟨4, (some 10), none, .bin .neq (.t 7) (.t 9), []⟩]) (.ite (.t 10) (.seq (.ops [⟨0, (some 4), none, .mov (.c (.bool false)), []⟩]) .ret) .skip)) (.seq (.seq (.ops [⟨0, (some 11), none, .mov (.t 0), []⟩, ⟨1, (some 12), none, .len (.t 11), []⟩, ⟨2, (some 13), none, .mov (.c (.int .i64 0)), []⟩]) (.block 0 (.loop (.seq (.ops [⟨0, (some 14), none, .bin .lss (.t 13) (.t 12), []⟩]) (.seq (.ite (.t 14) .skip (.exit 0)) (.seq (.block 1 (.seq (.ops [⟨0, (some 15), none, .mov (.t 13), []⟩, ⟨1, (some 5), none, .mov (.t 15), []⟩]) (.seq (.dops [⟨0, (some 16), none, .mov (.t 0), []⟩, ⟨1, (some 17), none, .mov (.t 5), []⟩, ⟨2, (some 18), none, .ixs 1 (.t 16) (.t 17), []⟩, ⟨3, (some 19), none, .ld (.t 18), []⟩, ⟨4, (some 20), none, .mov (.t 1), []⟩, ⟨5, (some 21), none, .mov (.t 5), []⟩, ⟨6, (some 22), none, .ixs 1 (.t 20) (.t 21), []⟩, ⟨7, (some 23), none, .ld (.t 22), []⟩, ⟨8, (some 24), none, .bin .neq (.t 19) (.t 23), []⟩]) (.ite (.t 24) (.seq (.ops [⟨0, (some 4), none, .mov (.c (.bool false)), []⟩]) .ret) .skip)))) (.ops [⟨0, (some 25), none, .bin .add (.t 13) (.c (.int .i64 1)), []⟩, ⟨1, (some 13), none, .mov (.t 25), []⟩]))))))) (.seq (.ops [⟨0, (some 4), none, .mov (.c (.bool true)), []⟩]) .ret)))
attribute [irreducible] c_cullettop_words
theorem run_cullettop_words {args : List Value} {w : World} {K : Value → World → Prop} (hn : args.length ≤ 26) (h : WP Try.prog c_cullettop_words (endQ [.t 4] K) (initT args) w) : CallV Try.prog 9 args w K :=
  call_of follows Try.func9 (by kernel_rfl) (by kernel_rfl) hn h
def c_cullettop_square : C := .seq (.ops [⟨0, (some 4), none, .mov (.c (.slice none 0 0)), []⟩]) (.seq (.ops [⟨0, (some 5), none, .mov (.c (.int .i64 1)), []⟩]) (.seq (.block 0 (.loop (.seq (.seq (.ops [⟨0, (some 7), none, .mov (.t 5), []⟩, ⟨1, (some 8), none, .mov (.t 0), []⟩, ⟨2, (some 9), none, .len (.t 8), []⟩, ⟨3, (some 10), none, .bin .lss (.t 7) (.t 9), []⟩, ⟨4, (some 11), none, .mov (.t 10), []⟩, ⟨5, (some 12), (some (11, true)), .mov (.t 5), []⟩, ⟨6, (some 13), (some (11, true)), .mov (.t 1), []⟩, ⟨7, (some 14), (some (11, true)), .bin .lss (.t 12) (.t 13), []⟩, ⟨8, (some 15), none, .pick (.t 11) (.t 14) (.c (.bool false)), []⟩]) (.ite (.t 15) .skip (.exit 0))) (.block 1 (.ops [⟨0, (some 16), none, .mov (.t 5), []⟩, ⟨1, (some 17), none, .bin .mul (.t 16) (.c (.int .i64 2)), []⟩, ⟨2, (some 5), none, .mov (.t 17), []⟩]))))) (.seq (.ops [⟨0, (some 18), none, .mov (.t 5), []⟩, ⟨1, (some 19), none, .mks 26 2 [.int .u16 0] (.t 18) (.t 18), []⟩, ⟨2, (some 6), none, .mov (.t 19), []⟩]) (.seq (.ops [⟨0, (some 20), none, .mov (.t 6), []⟩, ⟨1, (some 21), none, .mov (.t 0), []⟩, ⟨2, (some 22), none, .cpy 1 (.t 20) (.t 21), []⟩]) (.seq (.ops [⟨0, (some 23), none, .mov (.t 6), []⟩, ⟨1, (some 4), none, .mov (.t 23), []⟩]) .ret)))))
attribute [irreducible] c_cullettop_square
theorem run_cullettop_square {args : List Value} {w : World} {K : Value → World → Prop} (hn : args.length ≤ 24) (h : WP Try.prog c_cullettop_square (endQ [.t 4] K) (initT args) w) : CallV Try.prog 10 args w K :=
  call_of follows Try.func10 (by kernel_rfl) (by kernel_rfl) hn h
end Go.Proofs.Ytikaanmmdemaiaa.Fw
namespace Go.Proofs.Ytikaanmmdemaiaa.Fw
open Go Go.Fw
theorem cullettop_words_spec (w : World) (s1 s2 : Value) (l1 l2 : List (El 16)) (h1 : Sl w s1 l1) (h2 : Sl w s2 l2) (hb : l1.length ≤ 140737488355328) (hb2 : l2.length ≤ 140737488355328) :
    CallV Try.prog 9 [s1, s2] w fun v w' => v = .bool (decide (l1 = l2)) ∧ Like w w' := by
  refine run_cullettop_words (by simp) ?_
  simp only [c_cullettop_words, WS, List.getElem_cons_zero, List.getElem_cons_succ, Option.isNone_some, Option.isNone_none, List.getD_cons_zero, List.getD_cons_succ, I.at, atL, atO, atP, evp, evs, retV, ↓reduceIte, Nat.reduceEqDiff, reduceCtorEq, h1.Xlen, h2.Xlen]
  by_cases hl : l1.length = l2.length
  · simp only [WS, List.getElem_cons_zero, List.getElem_cons_succ, Option.isNone_some, Option.isNone_none, List.getD_cons_zero, List.getD_cons_succ, I.at, atL, atO, atP, evp, evs, retV, ↓reduceIte, Nat.reduceEqDiff, reduceCtorEq, show decide ((l1.length : Int) = (l2.length : Int)) = true from decide_eq_true (by omega), h1.Xlen]
    refine loop_of (fun t w' => Like w w' ∧ t 0 = s1 ∧ t 1 = s2 ∧ t 12 = .int .i64 (l1.length : Int) ∧ ∃ i : Nat, t 13 = .int .i64 (i : Int) ∧ i ≤ l1.length ∧ l1.take i = l2.take i) (fun t _ => l1.length - (toI (t 13)).toNat) ⟨Like.refl w, rfl, rfl, rfl, 0, rfl, by omega, by simp⟩ ?_
    rintro t w' ⟨hk, t0, t1, t12, i, t13, hi, he⟩
    have g1 := hk.sl h1
    have g2 := hk.sl h2
    by_cases hlt : i < l1.length
    · have hlt2 : i < l2.length := by omega
      simp only [WS, List.getElem_cons_zero, List.getElem_cons_succ, Option.isNone_some, Option.isNone_none, List.getD_cons_zero, List.getD_cons_succ, I.at, atL, atO, atP, evp, evs, retV, ↓reduceIte, Nat.reduceEqDiff, reduceCtorEq, t0, t1, t12, t13, g1.Xlen, show decide ((i : Int) < (l1.length : Int)) = true from decide_eq_true (by omega)]
      refine WP_dops ?_
      simp only [ES, List.mem_cons, List.not_mem_nil, implies_true, forall_const, WS, List.getElem_cons_zero, List.getElem_cons_succ, Option.isNone_some, Option.isNone_none, List.getD_cons_zero, List.getD_cons_succ, I.at, atL, atO, atP, evp, evs, retV, ↓reduceIte, Nat.reduceEqDiff, reduceCtorEq, t0, t1, t12, t13, g1.drew.Eix hlt, g1.drew.Eld hlt, g2.drew.Eix hlt2, g2.drew.Eld hlt2, cell_e16, el_eq]
      by_cases hx : l1[i] = l2[i]
      · simp only [WS, List.getElem_cons_zero, List.getElem_cons_succ, Option.isNone_some, Option.isNone_none, List.getD_cons_zero, List.getD_cons_succ, I.at, atL, atO, atP, evp, evs, retV, ↓reduceIte, Nat.reduceEqDiff, reduceCtorEq, t0, t1, t12, t13, decide_eq_true hx, wrap_id (show -9223372036854775808 ≤ (i : Int) + 1 by omega) (show (i : Int) + 1 < 9223372036854775808 by omega), toI_int]
        refine ⟨⟨hk.trans (Like.drew _), i + 1, rfl, by omega, ?_⟩, by omega⟩
        rw [List.take_add_one, List.take_add_one, he, List.getElem?_eq_getElem hlt, List.getElem?_eq_getElem hlt2, hx]
      · have : ¬ l1 = l2 := fun e => hx (by subst e; rfl)
        simp only [WS, List.getElem_cons_zero, List.getElem_cons_succ, Option.isNone_some, Option.isNone_none, List.getD_cons_zero, List.getD_cons_succ, I.at, atL, atO, atP, evp, evs, retV, ↓reduceIte, Nat.reduceEqDiff, reduceCtorEq, t0, t1, t12, t13, decide_eq_false hx, decide_eq_false this]
        exact hk.trans (Like.drew _)
    · rw [List.take_of_length_le (by omega), List.take_of_length_le (by omega)] at he
      simp only [WS, List.getElem_cons_zero, List.getElem_cons_succ, Option.isNone_some, Option.isNone_none, List.getD_cons_zero, List.getD_cons_succ, I.at, atL, atO, atP, evp, evs, retV, ↓reduceIte, Nat.reduceEqDiff, reduceCtorEq, t0, t1, t12, t13, g1.Xlen, show decide ((i : Int) < (l1.length : Int)) = false from decide_eq_false (by omega), decide_eq_true he]
      exact hk
  · have : ¬ l1 = l2 := fun e => hl (by rw [e])
    simp only [WS, List.getElem_cons_zero, List.getElem_cons_succ, Option.isNone_some, Option.isNone_none, List.getD_cons_zero, List.getD_cons_succ, I.at, atL, atO, atP, evp, evs, retV, ↓reduceIte, Nat.reduceEqDiff, reduceCtorEq, show decide ((l1.length : Int) = (l2.length : Int)) = false from decide_eq_false (by omega), decide_eq_false this]
    exact Like.refl w
end Go.Proofs.Ytikaanmmdemaiaa.Fw

namespace Go.Proofs.Ytikaanmmdemaiaa.Fw
open Go Go.Fw
theorem cullettop_square_spec (w : World) (s : Value) (l : List (El 16)) (K : Nat) (hK : K ≤ 16) (h : Sl w s l) (hb : l.length ≤ 70368744175616) :
    CallV Try.prog 10 [s, .int .i64 ((2 ^ K : Nat) : Int)] w fun v w' => RowKit.Below w.heap.size w w' ∧ ∃ (k : Nat) (m : List (El 16)), k ≤ K ∧ Ow w.heap.size w' v m ∧ m.length = 2 ^ k := by
  have hK16 := pow_le16' hK
  refine run_cullettop_square (by simp) ?_
  simp only [c_cullettop_square, WS, List.getElem_cons_zero, List.getElem_cons_succ, Option.isNone_some, Option.isNone_none, List.getD_cons_zero, List.getD_cons_succ, I.at, atL, atO, atP, evp, evs, retV, ↓reduceIte, Nat.reduceEqDiff, reduceCtorEq]
  refine loop_of (fun t w' => t 0 = s ∧ t 1 = .int .i64 ((2 ^ K : Nat) : Int) ∧ w' = w ∧ ∃ k : Nat, k ≤ K ∧ t 5 = .int .i64 ((2 ^ k : Nat) : Int)) (fun t _ => 2 ^ K - (toI (t 5)).toNat) ⟨by simp only [WS, List.getElem_cons_zero, List.getElem_cons_succ, Option.isNone_some, Option.isNone_none, List.getD_cons_zero, List.getD_cons_succ, I.at, atL, atO, atP, evp, evs, retV, ↓reduceIte, Nat.reduceEqDiff, reduceCtorEq], by simp only [WS, List.getElem_cons_zero, List.getElem_cons_succ, Option.isNone_some, Option.isNone_none, List.getD_cons_zero, List.getD_cons_succ, I.at, atL, atO, atP, evp, evs, retV, ↓reduceIte, Nat.reduceEqDiff, reduceCtorEq], rfl, 0, by omega, rfl⟩ ?_
  rintro t w' ⟨t0, t1, rfl, k, hk, t5⟩
  have hk16 := pow_le16' (Nat.le_trans hk hK)
  have hk0 := Nat.two_pow_pos k
  have hp : 2 ^ (k + 1) = 2 ^ k * 2 := Nat.pow_succ ..
  by_cases hc : 2 ^ k < l.length ∧ 2 ^ k < 2 ^ K
  · have hkK : k < K := by
      rcases Nat.lt_or_ge k K with h1 | h1
      · exact h1
      · have := Nat.pow_le_pow_right (show 0 < 2 by omega) h1; omega
    obtain ⟨hc1, hc2⟩ := hc
    simp (maxSteps := 1000000) (disch := omega) only [WS, List.getElem_cons_zero, List.getElem_cons_succ, Option.isNone_some, Option.isNone_none, List.getD_cons_zero, List.getD_cons_succ, I.at, atL, atO, atP, evp, evs, retV, ↓reduceIte, Nat.reduceEqDiff, reduceCtorEq, AS, t0, t1, t5, h.Xlen]
    exact ⟨⟨k + 1, by omega, by rw [hp]⟩, by omega⟩
  have fin : ∀ (sv : Value) (w1 : World), Ow w'.heap.size w1 sv (List.replicate (2 ^ k) (0 : El 16)) → RowKit.Below w'.heap.size w' w1 → True := fun _ _ _ _ => trivial
  by_cases hc1 : 2 ^ k < l.length
  · have hc2 : ¬ 2 ^ k < 2 ^ K := fun e => hc ⟨hc1, e⟩
    simp (maxSteps := 1000000) (disch := omega) only [WS, List.getElem_cons_zero, List.getElem_cons_succ, Option.isNone_some, Option.isNone_none, List.getD_cons_zero, List.getD_cons_succ, I.at, atL, atO, atP, evp, evs, retV, ↓reduceIte, Nat.reduceEqDiff, reduceCtorEq, AS, t0, t1, t5, h.Xlen]
    refine X_mks (x := (0 : El 16)) (by simp only [maxBytes]; omega) (by omega) fun sv w1 ov hB => ?_
    simp (maxSteps := 1000000) (disch := omega) only [WS, List.getElem_cons_zero, List.getElem_cons_succ, Option.isNone_some, Option.isNone_none, List.getD_cons_zero, List.getD_cons_succ, I.at, atL, atO, atP, evp, evs, retV, ↓reduceIte, Nat.reduceEqDiff, reduceCtorEq, AS, t0, t1, t5]
    refine ov.Xcpy (h.up hB) fun w2 ov2 hg => ?_
    simp (maxSteps := 1000000) (disch := omega) only [WS, List.getElem_cons_zero, List.getElem_cons_succ, Option.isNone_some, Option.isNone_none, List.getD_cons_zero, List.getD_cons_succ, I.at, atL, atO, atP, evp, evs, retV, ↓reduceIte, Nat.reduceEqDiff, reduceCtorEq, AS]
    exact ⟨hB.grown hg hB.size fun b hb => (ov.blk b hb).1, k, _, hk, ov2, by simp; omega⟩
  · simp (maxSteps := 1000000) (disch := omega) only [WS, List.getElem_cons_zero, List.getElem_cons_succ, Option.isNone_some, Option.isNone_none, List.getD_cons_zero, List.getD_cons_succ, I.at, atL, atO, atP, evp, evs, retV, ↓reduceIte, Nat.reduceEqDiff, reduceCtorEq, AS, t0, t1, t5, h.Xlen]
    refine X_mks (x := (0 : El 16)) (by simp only [maxBytes]; omega) (by omega) fun sv w1 ov hB => ?_
    simp (maxSteps := 1000000) (disch := omega) only [WS, List.getElem_cons_zero, List.getElem_cons_succ, Option.isNone_some, Option.isNone_none, List.getD_cons_zero, List.getD_cons_succ, I.at, atL, atO, atP, evp, evs, retV, ↓reduceIte, Nat.reduceEqDiff, reduceCtorEq, AS, t0, t1, t5]
    refine ov.Xcpy (h.up hB) fun w2 ov2 hg => ?_
    simp (maxSteps := 1000000) (disch := omega) only [WS, List.getElem_cons_zero, List.getElem_cons_succ, Option.isNone_some, Option.isNone_none, List.getD_cons_zero, List.getD_cons_succ, I.at, atL, atO, atP, evp, evs, retV, ↓reduceIte, Nat.reduceEqDiff, reduceCtorEq, AS]
    exact ⟨hB.grown hg hB.size fun b hb => (ov.blk b hb).1, k, _, hk, ov2, by simp; omega⟩
end Go.Proofs.Ytikaanmmdemaiaa.Fw
