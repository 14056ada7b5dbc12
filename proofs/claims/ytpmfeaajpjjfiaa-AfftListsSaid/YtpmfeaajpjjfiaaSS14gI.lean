import Derived.Test.YtpmfeaajpjjfiaaProg
import Derived.Test.YtpmfeaajpjjfiaaFwTI
import Derived.Test.YtpmfeaajpjjfiaaSS14fI
set_option linter.all false
set_option linter.unusedVariables false
set_option linter.unusedSimpArgs false
set_option maxRecDepth 100000
set_option maxHeartbeats 1000000
namespace Go.Proofs.Ytpmfeaajpjjfiaa.Fw
open Go Go.Fw Go.Proofs
attribute [local irreducible] stepI
def c_afft_Extend : C := .seq (.ops [⟨0, (some 6), none, .mov (.c (.slice none 0 0)), []⟩, ⟨1, (some 7), none, .mov (.c (.int .i64 0)), []⟩]) (.seq (.ops [⟨0, (some 11), none, .mov (.t 0), []⟩, ⟨1, (some 12), none, .mov (.t 1), []⟩, ⟨2, (some 13), none, .call (.c (.func (.func 17) #[] #[])) [.t 11, .t 12], []⟩, ⟨3, (some 10), none, .mov (.t 13), []⟩, ⟨4, (some 14), none, .ext (.t 10) 0, []⟩, ⟨5, (some 15), none, .ext (.t 10) 1, []⟩, ⟨6, (some 8), none, .mov (.t 14), []⟩, ⟨7, (some 9), none, .mov (.t 15), []⟩]) (.seq (.seq (.ops [⟨0, (some 16), none, .mov (.t 9), []⟩, ⟨1, (some 17), none, .bin .neq (.t 16) (.c (.int .i64 0)), []⟩]) (.ite (.t 17) (.seq (.ops [⟨0, (some 18), none, .mov (.t 9), []⟩, ⟨1, (some 6), none, .mov (.c (.slice none 0 0)), []⟩, ⟨2, (some 7), none, .mov (.t 18), []⟩]) .ret) .skip)) (.seq (.ops [⟨0, (some 19), none, .mov (.t 8), []⟩, ⟨1, (some 20), none, .mov (.t 2), []⟩, ⟨2, (some 21), none, .call (.c (.func (.func 18) #[] #[])) [.t 19, .t 20], []⟩, ⟨3, (some 22), none, .ext (.t 21) 0, []⟩, ⟨4, (some 23), none, .ext (.t 21) 1, []⟩, ⟨5, (some 6), none, .mov (.t 22), []⟩, ⟨6, (some 7), none, .mov (.t 23), []⟩]) .ret)))
attribute [irreducible] c_afft_Extend
theorem run_afft_Extend {args : List Value} {w : World} {K : Value → World → Prop} (hn : args.length ≤ 24) (h : WP Try.prog c_afft_Extend (endQ [.t 6, .t 7] K) (initT args) w) : CallV Try.prog 21 args w K :=
  call_of follows Try.func21 (by kernel_rfl) (by kernel_rfl) hn h
def c_afft_Fold : C := .seq (.ops [⟨0, (some 6), none, .mov (.c (.slice none 0 0)), []⟩, ⟨1, (some 7), none, .mov (.c (.int .i64 0)), []⟩]) (.seq (.block 0 (.seq (.ops [⟨0, (some 15), none, .mov (.t 1), []⟩, ⟨1, (some 16), none, .call (.c (.func (.func 34) #[] #[])) [.t 15], []⟩, ⟨2, (some 17), none, .un .not (.t 16), []⟩, ⟨3, (some 14), none, .mov (.t 17), []⟩]) (.ite (.t 14) (.seq (.ops [⟨0, (some 6), none, .mov (.c (.slice none 0 0)), []⟩, ⟨1, (some 7), none, .mov (.c (.int .i64 130)), []⟩]) .ret) (.seq (.ops [⟨0, (some 19), none, .mov (.t 0), []⟩, ⟨1, (some 20), none, .len (.t 19), []⟩, ⟨2, (some 21), none, .bin .eql (.t 20) (.c (.int .i64 0)), []⟩, ⟨3, (some 22), none, .mov (.t 21), []⟩, ⟨4, (some 23), (some (22, false)), .mov (.t 0), []⟩, ⟨5, (some 24), (some (22, false)), .len (.t 23), []⟩, ⟨6, (some 25), (some (22, false)), .mov (.t 1), []⟩, ⟨7, (some 26), (some (22, false)), .bin .rem (.t 24) (.t 25), []⟩, ⟨8, (some 27), (some (22, false)), .bin .neq (.t 26) (.c (.int .i64 0)), []⟩, ⟨9, (some 28), none, .pick (.t 22) (.c (.bool true)) (.t 27), []⟩, ⟨10, (some 18), none, .mov (.t 28), []⟩]) (.ite (.t 18) (.seq (.ops [⟨0, (some 6), none, .mov (.c (.slice none 0 0)), []⟩, ⟨1, (some 7), none, .mov (.c (.int .i64 6)), []⟩]) .ret) (.seq (.ops [⟨0, (some 30), none, .mov (.t 2), []⟩, ⟨1, (some 31), none, .mov (.t 1), []⟩, ⟨2, (some 32), none, .mov (.t 0), []⟩, ⟨3, (some 33), none, .len (.t 32), []⟩, ⟨4, (some 34), none, .call (.c (.func (.func 35) #[] #[])) [.t 30, .t 31, .t 33], []⟩, ⟨5, (some 35), none, .un .not (.t 34), []⟩, ⟨6, (some 29), none, .mov (.t 35), []⟩]) (.ite (.t 29) (.seq (.ops [⟨0, (some 6), none, .mov (.c (.slice none 0 0)), []⟩, ⟨1, (some 7), none, .mov (.c (.int .i64 140)), []⟩]) .ret) .skip))))))) (.seq (.ops [⟨0, (some 36), none, .mov (.t 1), []⟩, ⟨1, (some 37), none, .mks 31 2 [.int .u16 0] (.t 36) (.t 36), []⟩, ⟨2, (some 8), none, .mov (.t 37), []⟩]) (.seq (.seq (.ops [⟨0, (some 9), none, .mov (.c (.int .i64 0)), []⟩]) (.block 1 (.loop (.seq (.seq (.ops [⟨0, (some 38), none, .mov (.t 9), []⟩, ⟨1, (some 39), none, .mov (.t 0), []⟩, ⟨2, (some 40), none, .len (.t 39), []⟩, ⟨3, (some 41), none, .bin .lss (.t 38) (.t 40), []⟩]) (.ite (.t 41) .skip (.exit 1))) (.seq (.block 2 (.seq (.ops [⟨0, (some 46), none, .mov (.t 0), []⟩, ⟨1, (some 47), none, .mov (.t 9), []⟩, ⟨2, (some 48), none, .mov (.t 9), []⟩, ⟨3, (some 49), none, .mov (.t 1), []⟩, ⟨4, (some 50), none, .bin .add (.t 48) (.t 49), []⟩, ⟨5, (some 51), none, .slc 1 (.t 46) (some (.t 47)) (some (.t 50)) none, []⟩, ⟨6, (some 52), none, .mov (.t 2), []⟩, ⟨7, (some 53), none, .mov (.t 9), []⟩, ⟨8, (some 54), none, .bin .add (.t 52) (.t 53), []⟩, ⟨9, (some 55), none, .call (.c (.func (.func 17) #[] #[])) [.t 51, .t 54], []⟩, ⟨10, (some 45), none, .mov (.t 55), []⟩, ⟨11, (some 56), none, .ext (.t 45) 0, []⟩, ⟨12, (some 57), none, .ext (.t 45) 1, []⟩, ⟨13, (some 10), none, .mov (.t 56), []⟩, ⟨14, (some 11), none, .mov (.t 57), []⟩]) (.seq (.seq (.ops [⟨0, (some 58), none, .mov (.t 11), []⟩, ⟨1, (some 59), none, .bin .neq (.t 58) (.c (.int .i64 0)), []⟩]) (.ite (.t 59) (.seq (.ops [⟨0, (some 60), none, .mov (.t 11), []⟩, ⟨1, (some 6), none, .mov (.c (.slice none 0 0)), []⟩, ⟨2, (some 7), none, .mov (.t 60), []⟩]) .ret) .skip)) (.seq (.ops [⟨0, (some 61), none, .mov (.t 10), []⟩, ⟨1, (some 62), none, .len (.t 61), []⟩, ⟨2, (some 63), none, .mov (.c (.int .i64 0)), []⟩]) (.block 3 (.loop (.seq (.ops [⟨0, (some 64), none, .bin .lss (.t 63) (.t 62), []⟩]) (.seq (.ite (.t 64) .skip (.exit 3)) (.seq (.block 4 (.seq (.ops [⟨0, (some 65), none, .mov (.t 63), []⟩, ⟨1, (some 66), none, .ixs 1 (.t 61) (.t 63), []⟩, ⟨2, (some 67), none, .ld (.t 66), []⟩, ⟨3, (some 12), none, .mov (.t 65), []⟩, ⟨4, (some 13), none, .mov (.t 67), []⟩]) (.ops [⟨0, (some 68), none, .mov (.t 8), []⟩, ⟨1, (some 69), none, .mov (.t 12), []⟩, ⟨2, (some 70), none, .ixs 1 (.t 68) (.t 69), []⟩, ⟨3, (some 71), none, .ld (.t 70), []⟩, ⟨4, (some 72), none, .mov (.t 13), []⟩, ⟨5, (some 73), none, .bin .xor (.t 71) (.t 72), []⟩, ⟨6, (some 74), none, .ixs 1 (.t 68) (.t 69), []⟩, ⟨7, none, none, .st (.t 74) (.t 73), []⟩]))) (.ops [⟨0, (some 75), none, .bin .add (.t 63) (.c (.int .i64 1)), []⟩, ⟨1, (some 63), none, .mov (.t 75), []⟩])))))))))) (.ops [⟨0, (some 42), none, .mov (.t 9), []⟩, ⟨1, (some 43), none, .mov (.t 1), []⟩, ⟨2, (some 44), none, .bin .add (.t 42) (.t 43), []⟩, ⟨3, (some 9), none, .mov (.t 44), []⟩])))))) (.seq (.ops [⟨0, (some 76), none, .mov (.t 8), []⟩, ⟨1, (some 6), none, .mov (.t 76), []⟩, ⟨2, (some 7), none, .mov (.c (.int .i64 0)), []⟩]) .ret))))
attribute [irreducible] c_afft_Fold
theorem run_afft_Fold {args : List Value} {w : World} {K : Value → World → Prop} (hn : args.length ≤ 77) (h : WP Try.prog c_afft_Fold (endQ [.t 6, .t 7] K) (initT args) w) : CallV Try.prog 22 args w K :=
  call_of follows Try.func22 (by kernel_rfl) (by kernel_rfl) hn h
end Go.Proofs.Ytpmfeaajpjjfiaa.Fw
namespace Go.Proofs.Ytpmfeaajpjjfiaa.Fw
open Go Go.Fw
theorem pow2_inj {a b : Nat} (h : 2 ^ a = 2 ^ b) : a = b := by
  rcases Nat.lt_trichotomy a b with h1 | h1 | h1
  · have := Nat.pow_lt_pow_right (show 1 < 2 by omega) h1; omega
  · exact h1
  · have := Nat.pow_lt_pow_right (show 1 < 2 by omega) h1; omega
theorem afft_Extend_spec (w : World) (s : Value) (l : List (El 16)) (a b : Int) (h : Sl w s l) (hb : l.length ≤ 70368744175616) :
    CallV Try.prog 21 [s, .int .i64 a, .int .i64 b] w fun v w' => RowKit.Below w.heap.size w w' ∧ ((∃ k, k ≤ 16 ∧ l.length = 2 ^ k ∧ isC a (2 ^ k) (2 ^ k) = true ∧ isC b (2 ^ k) (2 ^ k) = true ∧ ∃ sv m, v = .tuple #[sv, .int .i64 0] ∧ Ow w.heap.size w' sv m ∧ m.length = l.length ∧ ∀ i, i < 2 ^ k → (co m).c i = itF b.toNat k (itI a.toNat k (co l).c) i) ∨
      (isP (l.length : Int) = false ∧ v = .tuple #[.slice none 0 0, .int .i64 130]) ∨ (isP (l.length : Int) = true ∧ (isC a l.length l.length = false ∨ isC b l.length l.length = false) ∧ v = .tuple #[.slice none 0 0, .int .i64 140])) := by
  refine run_afft_Extend (by simp) ?_
  simp only [c_afft_Extend, WS, List.getElem_cons_zero, List.getElem_cons_succ, Option.isNone_some, Option.isNone_none, List.getD_cons_zero, List.getD_cons_succ, I.at, atL, atO, atP, evp, evs, retV, ↓reduceIte, Nat.reduceEqDiff, reduceCtorEq]
  refine X_call0 ((afft_Inverse_spec w s l a h hb).mono ?_)
  rintro _ w1 ⟨hB, ⟨k, hk, hlk, hc, sv, m, rfl, om, hml, hm⟩ | ⟨hp, rfl⟩ | ⟨hp, hc, rfl⟩⟩
  · simp (maxSteps := 1000000) (disch := omega) only [WS, List.getElem_cons_zero, List.getElem_cons_succ, Option.isNone_some, Option.isNone_none, List.getD_cons_zero, List.getD_cons_succ, I.at, atL, atO, atP, evp, evs, retV, ↓reduceIte, Nat.reduceEqDiff, reduceCtorEq, AS]
    refine X_call0 ((afft_Forward_spec w1 sv m b om.sl (by omega)).mono ?_)
    rintro _ w2 ⟨hB2, ⟨k', hk', hlk', hc', sv', m', rfl, om', hml', hm'⟩ | ⟨hp, rfl⟩ | ⟨hp, hc', rfl⟩⟩
    · obtain rfl : k' = k := pow2_inj (show 2 ^ k' = 2 ^ k by omega)
      simp (maxSteps := 1000000) (disch := omega) only [WS, List.getElem_cons_zero, List.getElem_cons_succ, Option.isNone_some, Option.isNone_none, List.getD_cons_zero, List.getD_cons_succ, I.at, atL, atO, atP, evp, evs, retV, ↓reduceIte, Nat.reduceEqDiff, reduceCtorEq, AS]
      refine ⟨hB.trans (hB2.mono hB.size), Or.inl ⟨k', hk, hlk, hc, hc', sv', m', rfl, om'.mono hB.size, by omega, fun i hi => ?_⟩⟩
      rw [hm' i hi]
      exact itF_loc (n := 2 ^ k') (Nat.mod_self _) hm i hi
    · rw [hml, hlk, (isP_iff _).2 ⟨k, hk, rfl⟩] at hp; cases hp
    · simp (maxSteps := 1000000) (disch := omega) only [WS, List.getElem_cons_zero, List.getElem_cons_succ, Option.isNone_some, Option.isNone_none, List.getD_cons_zero, List.getD_cons_succ, I.at, atL, atO, atP, evp, evs, retV, ↓reduceIte, Nat.reduceEqDiff, reduceCtorEq, AS]
      exact ⟨hB.trans (hB2.mono hB.size), Or.inr (Or.inr ⟨hml ▸ hp, Or.inr (hml ▸ hc')⟩)⟩
  · simp (maxSteps := 1000000) (disch := omega) only [WS, List.getElem_cons_zero, List.getElem_cons_succ, Option.isNone_some, Option.isNone_none, List.getD_cons_zero, List.getD_cons_succ, I.at, atL, atO, atP, evp, evs, retV, ↓reduceIte, Nat.reduceEqDiff, reduceCtorEq, AS]
    exact ⟨hB, Or.inr (Or.inl hp)⟩
  · simp (maxSteps := 1000000) (disch := omega) only [WS, List.getElem_cons_zero, List.getElem_cons_succ, Option.isNone_some, Option.isNone_none, List.getD_cons_zero, List.getD_cons_succ, I.at, atL, atO, atP, evp, evs, retV, ↓reduceIte, Nat.reduceEqDiff, reduceCtorEq, AS]
    exact ⟨hB, Or.inr (Or.inr ⟨hp, Or.inl hc⟩)⟩
theorem afft_Fold_spec (w : World) (s : Value) (l : List (El 16)) (n a : Int) (h : Sl w s l) (hb : l.length ≤ 70368744175616) :
    CallV Try.prog 22 [s, .int .i64 n, .int .i64 a] w fun v w' => RowKit.Below w.heap.size w w' ∧ ((∃ k q, k ≤ 16 ∧ n = ((2 ^ k : Nat) : Int) ∧ l.length = q * 2 ^ k ∧ q ≠ 0 ∧ isC a (2 ^ k) l.length = true ∧ ∃ sv m, v = .tuple #[sv, .int .i64 0] ∧ Ow w.heap.size w' sv m ∧ m.length = 2 ^ k ∧ ∀ i, i < 2 ^ k → (co m).c i = esum q (fun p => itI (a.toNat + p * 2 ^ k) k (fun j => (co l).c (p * 2 ^ k + j)) i)) ∨
      (isP n = false ∧ v = .tuple #[.slice none 0 0, .int .i64 130]) ∨ (isP n = true ∧ (l.length = 0 ∨ l.length % n.toNat ≠ 0) ∧ v = .tuple #[.slice none 0 0, .int .i64 6]) ∨ (isP n = true ∧ ¬ (l.length = 0 ∨ l.length % n.toNat ≠ 0) ∧ isC a n.toNat l.length = false ∧ v = .tuple #[.slice none 0 0, .int .i64 140])) := by
  refine run_afft_Fold (by simp) ?_
  simp only [c_afft_Fold, WS, List.getElem_cons_zero, List.getElem_cons_succ, Option.isNone_some, Option.isNone_none, List.getD_cons_zero, List.getD_cons_succ, I.at, atL, atO, atP, evp, evs, retV, ↓reduceIte, Nat.reduceEqDiff, reduceCtorEq]
  refine X_call0 ((afft_power_spec w n).mono ?_)
  rintro _ w' ⟨rfl, rfl⟩
  cases hp : isP n with
  | false =>
    simp (maxSteps := 1000000) (disch := omega) only [WS, List.getElem_cons_zero, List.getElem_cons_succ, Option.isNone_some, Option.isNone_none, List.getD_cons_zero, List.getD_cons_succ, I.at, atL, atO, atP, evp, evs, retV, ↓reduceIte, Nat.reduceEqDiff, reduceCtorEq, AS]
    exact ⟨RowKit.Below.refl _ _, Or.inr (Or.inl trivial)⟩
  | true =>
    obtain ⟨k, hk, rfl⟩ := (isP_iff _).1 hp
    have hp0 := Nat.two_pow_pos k
    have hp16 := pow_le16 hk
    have hnz : (((2 ^ k : Nat) : Int) ≠ 0) = True := eq_true (by omega)
    simp only [Int.toNat_natCast]
    by_cases hz : l.length = 0
    · simp (maxSteps := 1000000) (disch := omega) only [WS, List.getElem_cons_zero, List.getElem_cons_succ, Option.isNone_some, Option.isNone_none, List.getD_cons_zero, List.getD_cons_succ, I.at, atL, atO, atP, evp, evs, retV, ↓reduceIte, Nat.reduceEqDiff, reduceCtorEq, AS, h.Xlen]
      exact ⟨RowKit.Below.refl _ _, Or.inr (Or.inr (Or.inl (Or.inl hz)))⟩
    by_cases hmod : l.length % 2 ^ k = 0
    · simp (maxSteps := 1000000) (disch := omega) only [WS, List.getElem_cons_zero, List.getElem_cons_succ, Option.isNone_some, Option.isNone_none, List.getD_cons_zero, List.getD_cons_succ, I.at, atL, atO, atP, evp, evs, retV, ↓reduceIte, Nat.reduceEqDiff, reduceCtorEq, AS, h.Xlen, X_rem, hnz, tmod_nat]
      refine X_call0 ((afft_begins_spec w' a (2 ^ k) l.length (by omega)).mono ?_)
      rintro _ w ⟨rfl, rfl⟩
      cases hc : isC a (2 ^ k) l.length with
      | false =>
        simp (maxSteps := 1000000) (disch := omega) only [WS, List.getElem_cons_zero, List.getElem_cons_succ, Option.isNone_some, Option.isNone_none, List.getD_cons_zero, List.getD_cons_succ, I.at, atL, atO, atP, evp, evs, retV, ↓reduceIte, Nat.reduceEqDiff, reduceCtorEq, AS]
        exact ⟨RowKit.Below.refl _ _, Or.inr (Or.inr (Or.inr fun e => e.elim hz (fun e => e hmod)))⟩
      | true =>
        have hc2 := hc
        unfold isC at hc2
        obtain ⟨c1, c2, c3, c4⟩ := of_decide_eq_true hc2
        obtain ⟨A, rfl⟩ : ∃ A : Nat, a = (A : Int) := ⟨a.toNat, by omega⟩
        rw [Int.toNat_natCast] at c4
        rw [Int.toNat_natCast]
        obtain ⟨q, hq⟩ : ∃ q, l.length = q * 2 ^ k := ⟨l.length / 2 ^ k, by have := Nat.div_add_mod l.length (2 ^ k); rw [Nat.mul_comm]; omega⟩
        simp (maxSteps := 1000000) (disch := omega) only [WS, List.getElem_cons_zero, List.getElem_cons_succ, Option.isNone_some, Option.isNone_none, List.getD_cons_zero, List.getD_cons_succ, I.at, atL, atO, atP, evp, evs, retV, ↓reduceIte, Nat.reduceEqDiff, reduceCtorEq, AS]
        refine X_mks (x := (0 : El 16)) (by simp only [maxBytes]; omega) (by omega) fun sv w1 ov hB => ?_
        simp (maxSteps := 1000000) (disch := omega) only [WS, List.getElem_cons_zero, List.getElem_cons_succ, Option.isNone_some, Option.isNone_none, List.getD_cons_zero, List.getD_cons_succ, I.at, atL, atO, atP, evp, evs, retV, ↓reduceIte, Nat.reduceEqDiff, reduceCtorEq, AS]
        refine loop_of (fun t w' => t 0 = s ∧ t 1 = .int .i64 ((2 ^ k : Nat) : Int) ∧ t 2 = .int .i64 (A : Int) ∧ t 8 = sv ∧ RowKit.Below w.heap.size w w' ∧ ∃ (p : Nat) (m : List (El 16)), t 9 = .int .i64 ((p * 2 ^ k : Nat) : Int) ∧ p ≤ q ∧ Ow w.heap.size w' sv m ∧ m.length = 2 ^ k ∧ ∀ i, i < 2 ^ k → (co m).c i = esum p (fun p => itI (A + p * 2 ^ k) k (fun j => (co l).c (p * 2 ^ k + j)) i))
          (fun t _ => l.length - (toI (t 9)).toNat) ⟨by simp only [WS, List.getElem_cons_zero, List.getElem_cons_succ, Option.isNone_some, Option.isNone_none, List.getD_cons_zero, List.getD_cons_succ, I.at, atL, atO, atP, evp, evs, retV, ↓reduceIte, Nat.reduceEqDiff, reduceCtorEq], by simp only [WS, List.getElem_cons_zero, List.getElem_cons_succ, Option.isNone_some, Option.isNone_none, List.getD_cons_zero, List.getD_cons_succ, I.at, atL, atO, atP, evp, evs, retV, ↓reduceIte, Nat.reduceEqDiff, reduceCtorEq], by simp only [WS, List.getElem_cons_zero, List.getElem_cons_succ, Option.isNone_some, Option.isNone_none, List.getD_cons_zero, List.getD_cons_succ, I.at, atL, atO, atP, evp, evs, retV, ↓reduceIte, Nat.reduceEqDiff, reduceCtorEq], by simp only [WS, List.getElem_cons_zero, List.getElem_cons_succ, Option.isNone_some, Option.isNone_none, List.getD_cons_zero, List.getD_cons_succ, I.at, atL, atO, atP, evp, evs, retV, ↓reduceIte, Nat.reduceEqDiff, reduceCtorEq], hB, 0, _, by simp only [WS, List.getElem_cons_zero, List.getElem_cons_succ, Option.isNone_some, Option.isNone_none, List.getD_cons_zero, List.getD_cons_succ, I.at, atL, atO, atP, evp, evs, retV, ↓reduceIte, Nat.reduceEqDiff, reduceCtorEq]; simp, by omega, ov, by simp, fun i hi => by rw [co_replicate]; rfl⟩ ?_
        clear ov hB
        rintro t w2 ⟨t0, t1, t2, t8, hB, p, m, t9, hpq, om, hml, hm⟩
        have h' := h.up hB
        by_cases hlt : p < q
        · have hle : p * 2 ^ k + 2 ^ k ≤ l.length := by
            rw [hq, show p * 2 ^ k + 2 ^ k = (p + 1) * 2 ^ k by rw [Nat.add_mul, Nat.one_mul]]
            exact Nat.mul_le_mul_right _ hlt
          have hsub := h'.sub (show p * 2 ^ k ≤ p * 2 ^ k + 2 ^ k by omega) hle
          have hpl : p * 2 ^ k < l.length := by omega
          have wA : IntKind.i64.wrap ((A : Int) + ((p * 2 ^ k : Nat) : Int)) = ((A + p * 2 ^ k : Nat) : Int) := w_add _ _ (by omega)
          have wB : IntKind.i64.wrap (((p * 2 ^ k : Nat) : Int) + ((2 ^ k : Nat) : Int)) = ((p * 2 ^ k + 2 ^ k : Nat) : Int) := w_add _ _ (by omega)
          generalize hP : p * 2 ^ k = P at *
          simp (maxSteps := 1000000) (disch := omega) only [WS, List.getElem_cons_zero, List.getElem_cons_succ, Option.isNone_some, Option.isNone_none, List.getD_cons_zero, List.getD_cons_succ, I.at, atL, atO, atP, evp, evs, retV, ↓reduceIte, Nat.reduceEqDiff, reduceCtorEq, AS, t0, t1, t2, t8, t9, h'.Xlen, wA, wB, h'.Xslc (show P ≤ P + 2 ^ k by omega) hle]
          refine X_call0 ((afft_Inverse_spec w2 _ _ ((A + P : Nat) : Int) hsub (by simp only [List.length_drop, List.length_take]; omega)).mono ?_)
          have hll : ((l.take (P + 2 ^ k)).drop P).length = 2 ^ k := by simp only [List.length_drop, List.length_take]; omega
          have hisC : isC ((A + P : Nat) : Int) (2 ^ k) (2 ^ k) = true := by
            unfold isC
            refine decide_eq_true ⟨by omega, by omega, by omega, ?_⟩
            rw [Int.toNat_natCast, Nat.add_mod, c4, ← hP, Nat.mul_mod_left, Nat.zero_add, Nat.zero_mod]
          rw [hll]
          rintro _ w3 ⟨hB3, ⟨k', hk', hlk', -, sd, d, rfl, od, hdl, hd⟩ | ⟨hbad, -⟩ | ⟨-, hbad, -⟩⟩
          rotate_left
          · rw [hp] at hbad; cases hbad
          · rw [hisC] at hbad; cases hbad
          obtain rfl : k' = k := pow2_inj (show 2 ^ k' = 2 ^ k by omega)
          rw [Int.toNat_natCast] at hd
          have hbl : ∀ b, Fw.blk sd = some b → w2.heap.size ≤ b := fun b hb => (od.blk b hb).1
          have hsl : ∀ b, Fw.blk sv = some b → b < w2.heap.size := fun b hb => (om.blk b hb).2
          have hne : Fw.blk sd ≠ Fw.blk sv := by
            intro e
            obtain ⟨b, hb, -⟩ := od.sl.blk_lt (by intro e; rw [e] at hdl; simp at hdl; omega)
            have h1 := hbl b hb
            have h2 := hsl b (e ▸ hb)
            omega
          have od := od.sl
          have om := om.up hB3
          have hB := hB.trans (hB3.mono hB.size)
          have svb : ∀ b, Fw.blk sv = some b → w.heap.size ≤ b := fun b hb => (om.blk b hb).1
          simp (maxSteps := 1000000) (disch := omega) only [WS, List.getElem_cons_zero, List.getElem_cons_succ, Option.isNone_some, Option.isNone_none, List.getD_cons_zero, List.getD_cons_succ, I.at, atL, atO, atP, evp, evs, retV, ↓reduceIte, Nat.reduceEqDiff, reduceCtorEq, AS, t0, t1, t2, t8, t9, od.Xlen]
          refine loop_of (fun t w' => t 0 = s ∧ t 1 = .int .i64 ((2 ^ k' : Nat) : Int) ∧ t 2 = .int .i64 (A : Int) ∧ t 8 = sv ∧ t 9 = .int .i64 (P : Int) ∧ t 61 = sd ∧ t 62 = .int .i64 (d.length : Int) ∧ RowKit.Below w.heap.size w w' ∧ Sl w' sd d ∧ ∃ (i : Nat) (m' : List (El 16)), t 63 = .int .i64 (i : Int) ∧ i ≤ 2 ^ k' ∧ Ow w.heap.size w' sv m' ∧ m'.length = 2 ^ k' ∧ ∀ x, (co m').c x = if x < i then (co m).c x + (co d).c x else (co m).c x)
            (fun t _ => 2 ^ k' - (toI (t 63)).toNat) ⟨by simp only [WS, List.getElem_cons_zero, List.getElem_cons_succ, Option.isNone_some, Option.isNone_none, List.getD_cons_zero, List.getD_cons_succ, I.at, atL, atO, atP, evp, evs, retV, ↓reduceIte, Nat.reduceEqDiff, reduceCtorEq]; exact t0, by simp only [WS, List.getElem_cons_zero, List.getElem_cons_succ, Option.isNone_some, Option.isNone_none, List.getD_cons_zero, List.getD_cons_succ, I.at, atL, atO, atP, evp, evs, retV, ↓reduceIte, Nat.reduceEqDiff, reduceCtorEq]; exact t1, by simp only [WS, List.getElem_cons_zero, List.getElem_cons_succ, Option.isNone_some, Option.isNone_none, List.getD_cons_zero, List.getD_cons_succ, I.at, atL, atO, atP, evp, evs, retV, ↓reduceIte, Nat.reduceEqDiff, reduceCtorEq]; exact t2, by simp only [WS, List.getElem_cons_zero, List.getElem_cons_succ, Option.isNone_some, Option.isNone_none, List.getD_cons_zero, List.getD_cons_succ, I.at, atL, atO, atP, evp, evs, retV, ↓reduceIte, Nat.reduceEqDiff, reduceCtorEq]; exact t8, by simp only [WS, List.getElem_cons_zero, List.getElem_cons_succ, Option.isNone_some, Option.isNone_none, List.getD_cons_zero, List.getD_cons_succ, I.at, atL, atO, atP, evp, evs, retV, ↓reduceIte, Nat.reduceEqDiff, reduceCtorEq]; exact t9, by simp only [WS, List.getElem_cons_zero, List.getElem_cons_succ, Option.isNone_some, Option.isNone_none, List.getD_cons_zero, List.getD_cons_succ, I.at, atL, atO, atP, evp, evs, retV, ↓reduceIte, Nat.reduceEqDiff, reduceCtorEq], by simp only [WS, List.getElem_cons_zero, List.getElem_cons_succ, Option.isNone_some, Option.isNone_none, List.getD_cons_zero, List.getD_cons_succ, I.at, atL, atO, atP, evp, evs, retV, ↓reduceIte, Nat.reduceEqDiff, reduceCtorEq], hB, od, 0, m, rfl, by omega, om, hml, fun x => by rw [if_neg (by omega)]⟩ ?_
          clear t0 t1 t2 t8 t9 hB od om
          rintro t w4 ⟨t0, t1, t2, t8, t9, t61, t62, hB, od, i, m', t63, hi, om, hml', hco⟩
          by_cases hil : i < 2 ^ k'
          · have him : i < m'.length := by omega
            have hid : i < d.length := by omega
            simp (maxSteps := 1000000) (disch := omega) only [WS, List.getElem_cons_zero, List.getElem_cons_succ, Option.isNone_some, Option.isNone_none, List.getD_cons_zero, List.getD_cons_succ, I.at, atL, atO, atP, evp, evs, retV, ↓reduceIte, Nat.reduceEqDiff, reduceCtorEq, AS, t0, t1, t2, t8, t9, t61, t62, t63, od.Xix hid, od.Xld hid, om.sl.Xix him, om.sl.Xld him, cell_e16, xor16]
            refine Ow.Xst om him (m'[i] + d[i]) fun w5 om5 hg5 => ?_
            simp (maxSteps := 1000000) (disch := omega) only [WS, List.getElem_cons_zero, List.getElem_cons_succ, Option.isNone_some, Option.isNone_none, List.getD_cons_zero, List.getD_cons_succ, I.at, atL, atO, atP, evp, evs, retV, ↓reduceIte, Nat.reduceEqDiff, reduceCtorEq, AS, t0, t1, t2, t8, t9, t61, t62, t63]
            refine ⟨⟨hB.grown hg5 hB.size svb, od.grown hg5 (Or.inl hne), i + 1, _, rfl, by omega, om5, by simp [hml'], fun x => ?_⟩, by omega⟩
            rw [co_set _ him, hco x]
            by_cases hx : x = i
            · subst hx
              have := hco x
              rw [if_neg (by omega), co_get m' him] at this
              rw [if_pos rfl, if_pos (by omega), this, co_get d hid]
            · rw [if_neg hx]
              by_cases hxi : x < i
              · rw [if_pos hxi, if_pos (by omega)]
              · rw [if_neg hxi, if_neg (by omega)]
          · simp (maxSteps := 1000000) (disch := omega) only [WS, List.getElem_cons_zero, List.getElem_cons_succ, Option.isNone_some, Option.isNone_none, List.getD_cons_zero, List.getD_cons_succ, I.at, atL, atO, atP, evp, evs, retV, ↓reduceIte, Nat.reduceEqDiff, reduceCtorEq, AS, t0, t1, t2, t8, t9, t61, t62, t63, wB]
            refine ⟨⟨hB, p + 1, m', by rw [← hP, Nat.add_mul, Nat.one_mul], by omega, om, hml', fun x hx => ?_⟩, by omega⟩
            rw [hco x, if_pos (by omega), hm x hx, hd x hx]
            show _ = esum p _ + itI (A + p * 2 ^ k') k' (fun j => (co l).c (p * 2 ^ k' + j)) x
            rw [hP]
            congr 1
            refine itI_loc (n := 2 ^ k') (Nat.mod_self _) (fun j hj => ?_) x hx
            rw [co_drop, co_takeL, if_pos (by omega)]
        · obtain rfl : p = q := by omega
          simp (maxSteps := 1000000) (disch := omega) only [WS, List.getElem_cons_zero, List.getElem_cons_succ, Option.isNone_some, Option.isNone_none, List.getD_cons_zero, List.getD_cons_succ, I.at, atL, atO, atP, evp, evs, retV, ↓reduceIte, Nat.reduceEqDiff, reduceCtorEq, AS, t0, t1, t2, t8, t9, h'.Xlen, hq]
          exact ⟨hB, Or.inl ⟨k, p, hk, rfl, rfl, by rintro rfl; rw [Nat.zero_mul] at hq; omega, hq ▸ hc, sv, m, rfl, om, hml, hm⟩⟩
    · simp (maxSteps := 1000000) (disch := omega) only [WS, List.getElem_cons_zero, List.getElem_cons_succ, Option.isNone_some, Option.isNone_none, List.getD_cons_zero, List.getD_cons_succ, I.at, atL, atO, atP, evp, evs, retV, ↓reduceIte, Nat.reduceEqDiff, reduceCtorEq, AS, h.Xlen, X_rem, hnz, tmod_nat]
      exact ⟨RowKit.Below.refl _ _, Or.inr (Or.inr (Or.inl (Or.inr hmod)))⟩
end Go.Proofs.Ytpmfeaajpjjfiaa.Fw
