import Derived.Test.YtikaanmmdemaiaaProg
import Derived.Test.YtikaanmmdemaiaaFwTR
import Derived.Test.YtikaanmmdemaiaaSQ5R
set_option linter.all false
set_option linter.unusedVariables false
set_option linter.unusedSimpArgs false
set_option maxRecDepth 100000
set_option maxHeartbeats 1000000
namespace Go.Proofs.Ytikaanmmdemaiaa.Fw
open Go Go.Fw Go.Proofs
attribute [local irreducible] stepI
def c_afft_Extend : C := .seq (.ops [⟨0, (some 6), none, .mov (.c (.slice none 0 0)), []⟩, ⟨1, (some 7), none, .mov (.c (.int .i64 0)), []⟩]) (.seq (.ops [⟨0, (some 11), none, .mov (.t 0), []⟩, ⟨1, (some 12), none, .mov (.t 1), []⟩, ⟨2, (some 13), none, .call (.c (.func (.func 11) #[] #[])) [.t 11, .t 12], []⟩, ⟨3, (some 10), none, .mov (.t 13), []⟩, ⟨4, (some 14), none, .ext (.t 10) 0, []⟩, ⟨5, (some 15), none, .ext (.t 10) 1, []⟩, ⟨6, (some 8), none, .mov (.t 14), []⟩, ⟨7, (some 9), none, .mov (.t 15), []⟩]) (.seq (.seq (.ops [⟨0, (some 16), none, .mov (.t 9), []⟩, ⟨1, (some 17), none, .bin .neq (.t 16) (.c (.int .i64 0)), []⟩]) (.ite (.t 17) (.seq (.ops [⟨0, (some 18), none, .mov (.t 9), []⟩, ⟨1, (some 6), none, .mov (.c (.slice none 0 0)), []⟩, ⟨2, (some 7), none, .mov (.t 18), []⟩]) .ret) .skip)) (.seq (.ops [⟨0, (some 19), none, .mov (.t 8), []⟩, ⟨1, (some 20), none, .mov (.t 2), []⟩, ⟨2, (some 21), none, .call (.c (.func (.func 12) #[] #[])) [.t 19, .t 20], []⟩, ⟨3, (some 22), none, .ext (.t 21) 0, []⟩, ⟨4, (some 23), none, .ext (.t 21) 1, []⟩, ⟨5, (some 6), none, .mov (.t 22), []⟩, ⟨6, (some 7), none, .mov (.t 23), []⟩]) .ret)))
attribute [irreducible] c_afft_Extend
theorem run_afft_Extend {args : List Value} {w : World} {K : Value → World → Prop} (hn : args.length ≤ 24) (h : WP Try.prog c_afft_Extend (endQ [.t 6, .t 7] K) (initT args) w) : CallV Try.prog 8 args w K :=
  call_of follows Try.func8 (by kernel_rfl) (by kernel_rfl) hn h
end Go.Proofs.Ytikaanmmdemaiaa.Fw
namespace Go.Proofs.Ytikaanmmdemaiaa.Fw
open Go Go.Fw
theorem pow2_inj {a b : Nat} (h : 2 ^ a = 2 ^ b) : a = b := by
  rcases Nat.lt_trichotomy a b with h1 | h1 | h1
  · have := Nat.pow_lt_pow_right (show 1 < 2 by omega) h1; omega
  · exact h1
  · have := Nat.pow_lt_pow_right (show 1 < 2 by omega) h1; omega
theorem afft_Extend_spec (w : World) (s : Value) (l : List (El 16)) (a b : Int) (h : Sl w s l) (hb : l.length ≤ 70368744175616) :
    CallV Try.prog 8 [s, .int .i64 a, .int .i64 b] w fun v w' => RowKit.Below w.heap.size w w' ∧ ((∃ k, k ≤ 16 ∧ l.length = 2 ^ k ∧ isC a (2 ^ k) (2 ^ k) = true ∧ isC b (2 ^ k) (2 ^ k) = true ∧ ∃ sv m, v = .tuple #[sv, .int .i64 0] ∧ Ow w.heap.size w' sv m ∧ m.length = l.length ∧ ∀ i, i < 2 ^ k → (co m).c i = itF b.toNat k (itI a.toNat k (co l).c) i) ∨
      (isP (l.length : Int) = false ∧ v = .tuple #[.slice none 0 0, .int .i64 130]) ∨ (isP (l.length : Int) = true ∧ (isC a l.length l.length = false ∨ isC b l.length l.length = false) ∧ v = .tuple #[.slice none 0 0, .int .i64 140])) := by
  refine run_afft_Extend (by simp) ?_
  simp only [c_afft_Extend, WS, List.getElem_cons_zero, List.getElem_cons_succ, Option.isNone_some, Option.isNone_none, List.getD_cons_zero, List.getD_cons_succ, I.at, atL, atO, atP, evp, evs, retV, ↓reduceIte, Nat.reduceEqDiff, reduceCtorEq]
  refine X_call0 ((afft_Inverse_spec w s l a h hb).mono ?_)
  rintro _ w1 ⟨hB, ⟨k, hk, hlk, hc, sv, m, rfl, om, hml, hm⟩ | ⟨hp, rfl⟩ | ⟨hp, hc, rfl⟩⟩
  · simp (maxSteps := 1000000) (disch := omega) only [WS, List.getElem_cons_zero, List.getElem_cons_succ, Option.isNone_some, Option.isNone_none, List.getD_cons_zero, List.getD_cons_succ, I.at, atL, atO, atP, evp, evs, retV, ↓reduceIte, Nat.reduceEqDiff, reduceCtorEq, AS]
    refine X_call0 ((afft_Forward_spec w1 sv m b om.sl (by omega)).mono ?_)
    rintro _ w2 ⟨hB2, ⟨k', hk', hlk', hc', sv', m', rfl, om', hml', hm'⟩ | ⟨hp, rfl⟩ | ⟨hp, hc', rfl⟩⟩
    · obtain rfl : k' = k := pow2_inj (show 2 ^ k' = 2 ^ k by omega)
      simp (maxSteps := 1000000) (disch := omega) only [WS, List.getElem_cons_zero, List.getElem_cons_succ, Option.isNone_some, Option.isNone_none, List.getD_cons_zero, List.getD_cons_succ, I.at, atL, atO, atP, evp, evs, retV, ↓reduceIte, Nat.reduceEqDiff, reduceCtorEq, AS]
      refine ⟨hB.trans (hB2.mono hB.size), Or.inl ⟨k', hk, hlk, hc, hc', sv', m', rfl, om'.mono hB.size, by omega, fun i hi => ?_⟩⟩
      rw [hm' i hi]
      exact itF_loc (n := 2 ^ k') (Nat.mod_self _) hm i hi
    · rw [hml, hlk, (isP_iff _).2 ⟨k, hk, rfl⟩] at hp; cases hp
    · simp (maxSteps := 1000000) (disch := omega) only [WS, List.getElem_cons_zero, List.getElem_cons_succ, Option.isNone_some, Option.isNone_none, List.getD_cons_zero, List.getD_cons_succ, I.at, atL, atO, atP, evp, evs, retV, ↓reduceIte, Nat.reduceEqDiff, reduceCtorEq, AS]
      exact ⟨hB.trans (hB2.mono hB.size), Or.inr (Or.inr ⟨hml ▸ hp, Or.inr (hml ▸ hc')⟩)⟩
  · simp (maxSteps := 1000000) (disch := omega) only [WS, List.getElem_cons_zero, List.getElem_cons_succ, Option.isNone_some, Option.isNone_none, List.getD_cons_zero, List.getD_cons_succ, I.at, atL, atO, atP, evp, evs, retV, ↓reduceIte, Nat.reduceEqDiff, reduceCtorEq, AS]
    exact ⟨hB, Or.inr (Or.inl hp)⟩
  · simp (maxSteps := 1000000) (disch := omega) only [WS, List.getElem_cons_zero, List.getElem_cons_succ, Option.isNone_some, Option.isNone_none, List.getD_cons_zero, List.getD_cons_succ, I.at, atL, atO, atP, evp, evs, retV, ↓reduceIte, Nat.reduceEqDiff, reduceCtorEq, AS]
    exact ⟨hB, Or.inr (Or.inr ⟨hp, Or.inl hc⟩)⟩
end Go.Proofs.Ytikaanmmdemaiaa.Fw
