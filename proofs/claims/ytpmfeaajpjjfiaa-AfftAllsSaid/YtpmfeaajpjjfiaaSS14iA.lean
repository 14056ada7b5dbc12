import Derived.Test.YtpmfeaajpjjfiaaProg
import Derived.Test.YtpmfeaajpjjfiaaFwTA
import Derived.Test.YtpmfeaajpjjfiaaSS14fA
import Derived.Test.YtpmfeaajpjjfiaaFwVA
set_option linter.all false
set_option linter.unusedVariables false
set_option linter.unusedSimpArgs false
set_option maxRecDepth 100000
set_option maxHeartbeats 1000000
namespace Go.Proofs.Ytpmfeaajpjjfiaa.Fw
open Go Go.Fw Go.Proofs
attribute [local irreducible] stepI
def c_afft_Extend : C := .seq (.ops [⟨0, (some 6), none, .mov (.c (.slice none 0 0)), []⟩, ⟨1, (some 7), none, .mov (.c (.int .i64 0)), []⟩]) (.seq (.ops [⟨0, (some 11), none, .mov (.t 0), []⟩, ⟨1, (some 12), none, .mov (.t 1), []⟩, ⟨2, (some 13), none, .call (.c (.func (.func 17) #[] #[])) [.t 11, .t 12], []⟩, ⟨3, (some 10), none, .mov (.t 13), []⟩, ⟨4, (some 14), none, .ext (.t 10) 0, []⟩, ⟨5, (some 15), none, .ext (.t 10) 1, []⟩, ⟨6, (some 8), none, .mov (.t 14), []⟩, ⟨7, (some 9), none, .mov (.t 15), []⟩]) (.seq (.seq (.ops [⟨0, (some 16), none, .mov (.t 9), []⟩, ⟨1, (some 17), none, .bin .neq (.t 16) (.c (.int .i64 0)), []⟩]) (.ite (.t 17) (.seq (.ops [⟨0, (some 18), none, .mov (.t 9), []⟩, ⟨1, (some 6), none, .mov (.c (.slice none 0 0)), []⟩, ⟨2, (some 7), none, .mov (.t 18), []⟩]) .ret) .skip)) (.seq (.ops [⟨0, (some 19), none, .mov (.t 8), []⟩, ⟨1, (some 20), none, .mov (.t 2), []⟩, ⟨2, (some 21), none, .call (.c (.func (.func 18) #[] #[])) [.t 19, .t 20], []⟩, ⟨3, (some 22), none, .ext (.t 21) 0, []⟩, ⟨4, (some 23), none, .ext (.t 21) 1, []⟩, ⟨5, (some 6), none, .mov (.t 22), []⟩, ⟨6, (some 7), none, .mov (.t 23), []⟩]) .ret)))
attribute [irreducible] c_afft_Extend
theorem run_afft_Extend {args : List Value} {w : World} {K : Value → World → Prop} (hn : args.length ≤ 24) (h : WP Try.prog c_afft_Extend (endQ [.t 6, .t 7] K) (initT args) w) : CallV Try.prog 21 args w K :=
  call_of follows Try.func21 (by kernel_rfl) (by kernel_rfl) hn h
def c_afft_Fold : C := .seq (.ops [⟨0, (some 6), none, .mov (.c (.slice none 0 0)), []⟩, ⟨1, (some 7), none, .mov (.c (.int .i64 0)), []⟩]) (.seq (.block 0 (.seq (.ops [⟨0, (some 15), none, .mov (.t 1), []⟩, ⟨1, (some 16), none, .call (.c (.func (.func 34) #[] #[])) [.t 15], []⟩, ⟨2, (some 17), none, .un .not (.t 16), []⟩, ⟨3, (some 14), none, .mov (.t 17), []⟩]) (.ite (.t 14) (.seq (.ops [⟨0, (some 6), none, .mov (.c (.slice none 0 0)), []⟩, ⟨1, (some 7), none, .mov (.c (.int .i64 130)), []⟩]) .ret) (.seq (.ops [⟨0, (some 19), none, .mov (.t 0), []⟩, ⟨1, (some 20), none, .len (.t 19), []⟩, ⟨2, (some 21), none, .bin .eql (.t 20) (.c (.int .i64 0)), []⟩, ⟨3, (some 22), none, .mov (.t 21), []⟩, ⟨4, (some 23), (some (22, false)), .mov (.t 0), []⟩, ⟨5, (some 24), (some (22, false)), .len (.t 23), []⟩, ⟨6, (some 25), (some (22, false)), .mov (.t 1), []⟩, ⟨7, (some 26), (some (22, false)), .bin .rem (.t 24) (.t 25), []⟩, ⟨8, (some 27), (some (22, false)), .bin .neq (.t 26) (.c (.int .i64 0)), []⟩, ⟨9, (some 28), none, .pick (.t 22) (.c (.bool true)) (.t 27), []⟩, ⟨10, (some 18), none, .mov (.t 28), []⟩]) (.ite (.t 18) (.seq (.ops [⟨0, (some 6), none, .mov (.c (.slice none 0 0)), []⟩, ⟨1, (some 7), none, .mov (.c (.int .i64 6)), []⟩]) .ret) (.seq (.ops [⟨0, (some 30), none, .mov (.t 2), []⟩, ⟨1, (some 31), none, .mov (.t 1), []⟩, ⟨2, (some 32), none, .mov (.t 0), []⟩, ⟨3, (some 33), none, .len (.t 32), []⟩, ⟨4, (some 34), none, .call (.c (.func (.func 35) #[] #[])) [.t 30, .t 31, .t 33], []⟩, ⟨5, (some 35), none, .un .not (.t 34), []⟩, ⟨6, (some 29), none, .mov (.t 35), []⟩]) (.ite (.t 29) (.seq (.ops [⟨0, (some 6), none, .mov (.c (.slice none 0 0)), []⟩, ⟨1, (some 7), none, .mov (.c (.int .i64 140)), []⟩]) .ret) .skip))))))) (.seq (.ops [⟨0, (some 36), none, .mov (.t 1), []⟩, ⟨1, (some 37), none, .mks 31 2 [.int .u16 0] (.t 36) (.t 36), []⟩, ⟨2, (some 8), none, .mov (.t 37), []⟩]) (.seq (.seq (.ops [⟨0, (some 9), none, .mov (.c (.int .i64 0)), []⟩]) (.block 1 (.loop (.seq (.seq (.ops [⟨0, (some 38), none, .mov (.t 9), []⟩, ⟨1, (some 39), none, .mov (.t 0), []⟩, ⟨2, (some 40), none, .len (.t 39), []⟩, ⟨3, (some 41), none, .bin .lss (.t 38) (.t 40), []⟩]) (.ite (.t 41) .skip (.exit 1))) (.seq (.block 2 (.seq (.ops [⟨0, (some 46), none, .mov (.t 0), []⟩, ⟨1, (some 47), none, .mov (.t 9), []⟩, ⟨2, (some 48), none, .mov (.t 9), []⟩, ⟨3, (some 49), none, .mov (.t 1), []⟩, ⟨4, (some 50), none, .bin .add (.t 48) (.t 49), []⟩, ⟨5, (some 51), none, .slc 1 (.t 46) (some (.t 47)) (some (.t 50)) none, []⟩, ⟨6, (some 52), none, .mov (.t 2), []⟩, ⟨7, (some 53), none, .mov (.t 9), []⟩, ⟨8, (some 54), none, .bin .add (.t 52) (.t 53), []⟩, ⟨9, (some 55), none, .call (.c (.func (.func 17) #[] #[])) [.t 51, .t 54], []⟩, ⟨10, (some 45), none, .mov (.t 55), []⟩, ⟨11, (some 56), none, .ext (.t 45) 0, []⟩, ⟨12, (some 57), none, .ext (.t 45) 1, []⟩, ⟨13, (some 10), none, .mov (.t 56), []⟩, ⟨14, (some 11), none, .mov (.t 57), []⟩]) (.seq (.seq (.ops [⟨0, (some 58), none, .mov (.t 11), []⟩, ⟨1, (some 59), none, .bin .neq (.t 58) (.c (.int .i64 0)), []⟩]) (.ite (.t 59) (.seq (.ops [⟨0, (some 60), none, .mov (.t 11), []⟩, ⟨1, (some 6), none, .mov (.c (.slice none 0 0)), []⟩, ⟨2, (some 7), none, .mov (.t 60), []⟩]) .ret) .skip)) (.seq (.ops [⟨0, (some 61), none, .mov (.t 10), []⟩, ⟨1, (some 62), none, .len (.t 61), []⟩, ⟨2, (some 63), none, .mov (.c (.int .i64 0)), []⟩]) (.block 3 (.loop (.seq (.ops [⟨0, (some 64), none, .bin .lss (.t 63) (.t 62), []⟩]) (.seq (.ite (.t 64) .skip (.exit 3)) (.seq (.block 4 (.seq (.ops [⟨0, (some 65), none, .mov (.t 63), []⟩, ⟨1, (some 66), none, .ixs 1 (.t 61) (.t 63), []⟩, ⟨2, (some 67), none, .ld (.t 66), []⟩, ⟨3, (some 12), none, .mov (.t 65), []⟩, ⟨4, (some 13), none, .mov (.t 67), []⟩]) (.ops [⟨0, (some 68), none, .mov (.t 8), []⟩, ⟨1, (some 69), none, .mov (.t 12), []⟩, ⟨2, (some 70), none, .ixs 1 (.t 68) (.t 69), []⟩, ⟨3, (some 71), none, .ld (.t 70), []⟩, ⟨4, (some 72), none, .mov (.t 13), []⟩, ⟨5, (some 73), none, .bin .xor (.t 71) (.t 72), []⟩, ⟨6, (some 74), none, .ixs 1 (.t 68) (.t 69), []⟩, ⟨7, none, none, .st (.t 74) (.t 73), []⟩]))) (.ops [⟨0, (some 75), none, .bin .add (.t 63) (.c (.int .i64 1)), []⟩, ⟨1, (some 63), none, .mov (.t 75), []⟩])))))))))) (.ops [⟨0, (some 42), none, .mov (.t 9), []⟩, ⟨1, (some 43), none, .mov (.t 1), []⟩, ⟨2, (some 44), none, .bin .add (.t 42) (.t 43), []⟩, ⟨3, (some 9), none, .mov (.t 44), []⟩])))))) (.seq (.ops [⟨0, (some 76), none, .mov (.t 8), []⟩, ⟨1, (some 6), none, .mov (.t 76), []⟩, ⟨2, (some 7), none, .mov (.c (.int .i64 0)), []⟩]) .ret))))
attribute [irreducible] c_afft_Fold
theorem run_afft_Fold {args : List Value} {w : World} {K : Value → World → Prop} (hn : args.length ≤ 77) (h : WP Try.prog c_afft_Fold (endQ [.t 6, .t 7] K) (initT args) w) : CallV Try.prog 22 args w K :=
  call_of follows Try.func22 (by kernel_rfl) (by kernel_rfl) hn h
end Go.Proofs.Ytpmfeaajpjjfiaa.Fw
namespace Go.Proofs.Ytpmfeaajpjjfiaa.Fw
open Go Go.Fw
theorem pow2_inj {a b : Nat} (h : 2 ^ a = 2 ^ b) : a = b := by
  rcases Nat.lt_trichotomy a b with h1 | h1 | h1
  · have := Nat.pow_lt_pow_right (show 1 < 2 by omega) h1; omega
  · exact h1
  · have := Nat.pow_lt_pow_right (show 1 < 2 by omega) h1; omega
theorem afft_Extend_spec (w : World) (s : Value) (l : List (El 16)) (a b : Int) (h : Sl w s l) (hb : l.length ≤ 70368744175616) :
    CallV Try.prog 21 [s, .int .i64 a, .int .i64 b] w fun v w' => RowKit.Below w.heap.size w w' ∧ ((∃ k, k ≤ 16 ∧ l.length = 2 ^ k ∧ isC a (2 ^ k) (2 ^ k) = true ∧ isC b (2 ^ k) (2 ^ k) = true ∧ ∃ sv m, v = .tuple #[sv, .int .i64 0] ∧ Ow w.heap.size w' sv m ∧ m.length = l.length ∧ ∀ i, i < 2 ^ k → (co m).c i = itF b.toNat k (itI a.toNat k (co l).c) i) ∨
      (isP (l.length : Int) = false ∧ v = .tuple #[.slice none 0 0, .int .i64 130]) ∨ (isP (l.length : Int) = true ∧ (isC a l.length l.length = false ∨ isC b l.length l.length = false) ∧ v = .tuple #[.slice none 0 0, .int .i64 140])) := by
  refine run_afft_Extend (by simp) ?_
  simp only [c_afft_Extend, WS, List.getElem_cons_zero, List.getElem_cons_succ, Option.isNone_some, Option.isNone_none, List.getD_cons_zero, List.getD_cons_succ, I.at, atL, atO, atP, evp, evs, retV, ↓reduceIte, Nat.reduceEqDiff, reduceCtorEq]
  refine X_call0 ((afft_Inverse_spec w s l a h hb).mono ?_)
  rintro _ w1 ⟨hB, ⟨k, hk, hlk, hc, sv, m, rfl, om, hml, hm⟩ | ⟨hp, rfl⟩ | ⟨hp, hc, rfl⟩⟩
  · simp (maxSteps := 1000000) (disch := omega) only [WS, List.getElem_cons_zero, List.getElem_cons_succ, Option.isNone_some, Option.isNone_none, List.getD_cons_zero, List.getD_cons_succ, I.at, atL, atO, atP, evp, evs, retV, ↓reduceIte, Nat.reduceEqDiff, reduceCtorEq, AS]
    refine X_call0 ((afft_Forward_spec w1 sv m b om.sl (by omega)).mono ?_)
    rintro _ w2 ⟨hB2, ⟨k', hk', hlk', hc', sv', m', rfl, om', hml', hm'⟩ | ⟨hp, rfl⟩ | ⟨hp, hc', rfl⟩⟩
    · obtain rfl : k' = k := pow2_inj (show 2 ^ k' = 2 ^ k by omega)
      simp (maxSteps := 1000000) (disch := omega) only [WS, List.getElem_cons_zero, List.getElem_cons_succ, Option.isNone_some, Option.isNone_none, List.getD_cons_zero, List.getD_cons_succ, I.at, atL, atO, atP, evp, evs, retV, ↓reduceIte, Nat.reduceEqDiff, reduceCtorEq, AS]
      refine ⟨hB.trans (hB2.mono hB.size), Or.inl ⟨k', hk, hlk, hc, hc', sv', m', rfl, om'.mono hB.size, by omega, fun i hi => ?_⟩⟩
      rw [hm' i hi]
      exact itF_loc (n := 2 ^ k') (Nat.mod_self _) hm i hi
    · rw [hml, hlk, (isP_iff _).2 ⟨k, hk, rfl⟩] at hp; cases hp
    · simp (maxSteps := 1000000) (disch := omega) only [WS, List.getElem_cons_zero, List.getElem_cons_succ, Option.isNone_some, Option.isNone_none, List.getD_cons_zero, List.getD_cons_succ, I.at, atL, atO, atP, evp, evs, retV, ↓reduceIte, Nat.reduceEqDiff, reduceCtorEq, AS]
      exact ⟨hB.trans (hB2.mono hB.size), Or.inr (Or.inr ⟨hml ▸ hp, Or.inr (hml ▸ hc')⟩)⟩
  · simp (maxSteps := 1000000) (disch := omega) only [WS, List.getElem_cons_zero, List.getElem_cons_succ, Option.isNone_some, Option.isNone_none, List.getD_cons_zero, List.getD_cons_succ, I.at, atL, atO, atP, evp, evs, retV, ↓reduceIte, Nat.reduceEqDiff, reduceCtorEq, AS]
    exact ⟨hB, Or.inr (Or.inl hp)⟩
  · simp (maxSteps := 1000000) (disch := omega) only [WS, List.getElem_cons_zero, List.getElem_cons_succ, Option.isNone_some, Option.isNone_none, List.getD_cons_zero, List.getD_cons_succ, I.at, atL, atO, atP, evp, evs, retV, ↓reduceIte, Nat.reduceEqDiff, reduceCtorEq, AS]
    exact ⟨hB, Or.inr (Or.inr ⟨hp, Or.inl hc⟩)⟩
theorem afft_Fold_spec (w : World) (s : Value) (l : List (El 16)) (n a : Int) (h : Sl w s l) (hb : l.length ≤ 70368744175616) :
    CallV Try.prog 22 [s, .int .i64 n, .int .i64 a] w fun v w' => RowKit.Below w.heap.size w w' ∧ ((∃ k q, k ≤ 16 ∧ n = ((2 ^ k : Nat) : Int) ∧ l.length = q * 2 ^ k ∧ q ≠ 0 ∧ isC a (2 ^ k) l.length = true ∧ ∃ sv m, v = .tuple #[sv, .int .i64 0] ∧ Ow w.heap.size w' sv m ∧ m.length = 2 ^ k ∧ ∀ i, i < 2 ^ k → (co m).c i = esum q (fun p => itI (a.toNat + p * 2 ^ k) k (fun j => (co l).c (p * 2 ^ k + j)) i)) ∨
      (isP n = false ∧ v = .tuple #[.slice none 0 0, .int .i64 130]) ∨ (isP n = true ∧ (l.length = 0 ∨ l.length % n.toNat ≠ 0) ∧ v = .tuple #[.slice none 0 0, .int .i64 6]) ∨ (isP n = true ∧ ¬ (l.length = 0 ∨ l.length % n.toNat ≠ 0) ∧ isC a n.toNat l.length = false ∧ v = .tuple #[.slice none 0 0, .int .i64 140])) := by
  refine run_afft_Fold (by simp) ?_
  simp only [c_afft_Fold, WS, List.getElem_cons_zero, List.getElem_cons_succ, Option.isNone_some, Option.isNone_none, List.getD_cons_zero, List.getD_cons_succ, I.at, atL, atO, atP, evp, evs, retV, ↓reduceIte, Nat.reduceEqDiff, reduceCtorEq]
  refine X_call0 ((afft_power_spec w n).mono ?_)
  rintro _ w' ⟨rfl, rfl⟩
  cases hp : isP n with
  | false =>
    simp (maxSteps := 1000000) (disch := omega) only [WS, List.getElem_cons_zero, List.getElem_cons_succ, Option.isNone_some, Option.isNone_none, List.getD_cons_zero, List.getD_cons_succ, I.at, atL, atO, atP, evp, evs, retV, ↓reduceIte, Nat.reduceEqDiff, reduceCtorEq, AS]
    exact ⟨RowKit.Below.refl _ _, Or.inr (Or.inl trivial)⟩
  | true =>
    obtain ⟨k, hk, rfl⟩ := (isP_iff _).1 hp
    have hp0 := Nat.two_pow_pos k
    have hp16 := pow_le16 hk
    have hnz : (((2 ^ k : Nat) : Int) ≠ 0) = True := eq_true (by omega)
    simp only [Int.toNat_natCast]
    by_cases hz : l.length = 0
    · simp (maxSteps := 1000000) (disch := omega) only [WS, List.getElem_cons_zero, List.getElem_cons_succ, Option.isNone_some, Option.isNone_none, List.getD_cons_zero, List.getD_cons_succ, I.at, atL, atO, atP, evp, evs, retV, ↓reduceIte, Nat.reduceEqDiff, reduceCtorEq, AS, h.Xlen]
      exact ⟨RowKit.Below.refl _ _, Or.inr (Or.inr (Or.inl (Or.inl hz)))⟩
    by_cases hmod : l.length % 2 ^ k = 0
    · simp (maxSteps := 1000000) (disch := omega) only [WS, List.getElem_cons_zero, List.getElem_cons_succ, Option.isNone_some, Option.isNone_none, List.getD_cons_zero, List.getD_cons_succ, I.at, atL, atO, atP, evp, evs, retV, ↓reduceIte, Nat.reduceEqDiff, reduceCtorEq, AS, h.Xlen, X_rem, hnz, tmod_nat]
      refine X_call0 ((afft_begins_spec w' a (2 ^ k) l.length (by omega)).mono ?_)
      rintro _ w ⟨rfl, rfl⟩
      cases hc : isC a (2 ^ k) l.length with
      | false =>
        simp (maxSteps := 1000000) (disch := omega) only [WS, List.getElem_cons_zero, List.getElem_cons_succ, Option.isNone_some, Option.isNone_none, List.getD_cons_zero, List.getD_cons_succ, I.at, atL, atO, atP, evp, evs, retV, ↓reduceIte, Nat.reduceEqDiff, reduceCtorEq, AS]
        exact ⟨RowKit.Below.refl _ _, Or.inr (Or.inr (Or.inr fun e => e.elim hz (fun e => e hmod)))⟩
      | true =>
        have hc2 := hc
        unfold isC at hc2
        obtain ⟨c1, c2, c3, c4⟩ := of_decide_eq_true hc2
        obtain ⟨A, rfl⟩ : ∃ A : Nat, a = (A : Int) := ⟨a.toNat, by omega⟩
        rw [Int.toNat_natCast] at c4
        rw [Int.toNat_natCast]
        obtain ⟨q, hq⟩ : ∃ q, l.length = q * 2 ^ k := ⟨l.length / 2 ^ k, by have := Nat.div_add_mod l.length (2 ^ k); rw [Nat.mul_comm]; omega⟩
        simp (maxSteps := 1000000) (disch := omega) only [WS, List.getElem_cons_zero, List.getElem_cons_succ, Option.isNone_some, Option.isNone_none, List.getD_cons_zero, List.getD_cons_succ, I.at, atL, atO, atP, evp, evs, retV, ↓reduceIte, Nat.reduceEqDiff, reduceCtorEq, AS]
        refine X_mks (x := (0 : El 16)) (by simp only [maxBytes]; omega) (by omega) fun sv w1 ov hB => ?_
        simp (maxSteps := 1000000) (disch := omega) only [WS, List.getElem_cons_zero, List.getElem_cons_succ, Option.isNone_some, Option.isNone_none, List.getD_cons_zero, List.getD_cons_succ, I.at, atL, atO, atP, evp, evs, retV, ↓reduceIte, Nat.reduceEqDiff, reduceCtorEq, AS]
        refine loop_of (fun t w' => t 0 = s ∧ t 1 = .int .i64 ((2 ^ k : Nat) : Int) ∧ t 2 = .int .i64 (A : Int) ∧ t 8 = sv ∧ RowKit.Below w.heap.size w w' ∧ ∃ (p : Nat) (m : List (El 16)), t 9 = .int .i64 ((p * 2 ^ k : Nat) : Int) ∧ p ≤ q ∧ Ow w.heap.size w' sv m ∧ m.length = 2 ^ k ∧ ∀ i, i < 2 ^ k → (co m).c i = esum p (fun p => itI (A + p * 2 ^ k) k (fun j => (co l).c (p * 2 ^ k + j)) i))
          (fun t _ => l.length - (toI (t 9)).toNat) ⟨by simp only [WS, List.getElem_cons_zero, List.getElem_cons_succ, Option.isNone_some, Option.isNone_none, List.getD_cons_zero, List.getD_cons_succ, I.at, atL, atO, atP, evp, evs, retV, ↓reduceIte, Nat.reduceEqDiff, reduceCtorEq], by simp only [WS, List.getElem_cons_zero, List.getElem_cons_succ, Option.isNone_some, Option.isNone_none, List.getD_cons_zero, List.getD_cons_succ, I.at, atL, atO, atP, evp, evs, retV, ↓reduceIte, Nat.reduceEqDiff, reduceCtorEq], by simp only [WS, List.getElem_cons_zero, List.getElem_cons_succ, Option.isNone_some, Option.isNone_none, List.getD_cons_zero, List.getD_cons_succ, I.at, atL, atO, atP, evp, evs, retV, ↓reduceIte, Nat.reduceEqDiff, reduceCtorEq], by simp only [WS, List.getElem_cons_zero, List.getElem_cons_succ, Option.isNone_some, Option.isNone_none, List.getD_cons_zero, List.getD_cons_succ, I.at, atL, atO, atP, evp, evs, retV, ↓reduceIte, Nat.reduceEqDiff, reduceCtorEq], hB, 0, _, by simp only [WS, List.getElem_cons_zero, List.getElem_cons_succ, Option.isNone_some, Option.isNone_none, List.getD_cons_zero, List.getD_cons_succ, I.at, atL, atO, atP, evp, evs, retV, ↓reduceIte, Nat.reduceEqDiff, reduceCtorEq]; simp, by omega, ov, by simp, fun i hi => by rw [co_replicate]; rfl⟩ ?_
        clear ov hB
        rintro t w2 ⟨t0, t1, t2, t8, hB, p, m, t9, hpq, om, hml, hm⟩
        have h' := h.up hB
        by_cases hlt : p < q
        · have hle : p * 2 ^ k + 2 ^ k ≤ l.length := by
            rw [hq, show p * 2 ^ k + 2 ^ k = (p + 1) * 2 ^ k by rw [Nat.add_mul, Nat.one_mul]]
            exact Nat.mul_le_mul_right _ hlt
          have hsub := h'.sub (show p * 2 ^ k ≤ p * 2 ^ k + 2 ^ k by omega) hle
          have hpl : p * 2 ^ k < l.length := by omega
          have wA : IntKind.i64.wrap ((A : Int) + ((p * 2 ^ k : Nat) : Int)) = ((A + p * 2 ^ k : Nat) : Int) := w_add _ _ (by omega)
          have wB : IntKind.i64.wrap (((p * 2 ^ k : Nat) : Int) + ((2 ^ k : Nat) : Int)) = ((p * 2 ^ k + 2 ^ k : Nat) : Int) := w_add _ _ (by omega)
          generalize hP : p * 2 ^ k = P at *
          simp (maxSteps := 1000000) (disch := omega) only [WS, List.getElem_cons_zero, List.getElem_cons_succ, Option.isNone_some, Option.isNone_none, List.getD_cons_zero, List.getD_cons_succ, I.at, atL, atO, atP, evp, evs, retV, ↓reduceIte, Nat.reduceEqDiff, reduceCtorEq, AS, t0, t1, t2, t8, t9, h'.Xlen, wA, wB, h'.Xslc (show P ≤ P + 2 ^ k by omega) hle]
          refine X_call0 ((afft_Inverse_spec w2 _ _ ((A + P : Nat) : Int) hsub (by simp only [List.length_drop, List.length_take]; omega)).mono ?_)
          have hll : ((l.take (P + 2 ^ k)).drop P).length = 2 ^ k := by simp only [List.length_drop, List.length_take]; omega
          have hisC : isC ((A + P : Nat) : Int) (2 ^ k) (2 ^ k) = true := by
            unfold isC
            refine decide_eq_true ⟨by omega, by omega, by omega, ?_⟩
            rw [Int.toNat_natCast, Nat.add_mod, c4, ← hP, Nat.mul_mod_left, Nat.zero_add, Nat.zero_mod]
          rw [hll]
          rintro _ w3 ⟨hB3, ⟨k', hk', hlk', -, sd, d, rfl, od, hdl, hd⟩ | ⟨hbad, -⟩ | ⟨-, hbad, -⟩⟩
          rotate_left
          · rw [hp] at hbad; cases hbad
          · rw [hisC] at hbad; cases hbad
          obtain rfl : k' = k := pow2_inj (show 2 ^ k' = 2 ^ k by omega)
          rw [Int.toNat_natCast] at hd
          have hbl : ∀ b, Fw.blk sd = some b → w2.heap.size ≤ b := fun b hb => (od.blk b hb).1
          have hsl : ∀ b, Fw.blk sv = some b → b < w2.heap.size := fun b hb => (om.blk b hb).2
          have hne : Fw.blk sd ≠ Fw.blk sv := by
            intro e
            obtain ⟨b, hb, -⟩ := od.sl.blk_lt (by intro e; rw [e] at hdl; simp at hdl; omega)
            have h1 := hbl b hb
            have h2 := hsl b (e ▸ hb)
            omega
          have od := od.sl
          have om := om.up hB3
          have hB := hB.trans (hB3.mono hB.size)
          have svb : ∀ b, Fw.blk sv = some b → w.heap.size ≤ b := fun b hb => (om.blk b hb).1
          simp (maxSteps := 1000000) (disch := omega) only [WS, List.getElem_cons_zero, List.getElem_cons_succ, Option.isNone_some, Option.isNone_none, List.getD_cons_zero, List.getD_cons_succ, I.at, atL, atO, atP, evp, evs, retV, ↓reduceIte, Nat.reduceEqDiff, reduceCtorEq, AS, t0, t1, t2, t8, t9, od.Xlen]
          refine loop_of (fun t w' => t 0 = s ∧ t 1 = .int .i64 ((2 ^ k' : Nat) : Int) ∧ t 2 = .int .i64 (A : Int) ∧ t 8 = sv ∧ t 9 = .int .i64 (P : Int) ∧ t 61 = sd ∧ t 62 = .int .i64 (d.length : Int) ∧ RowKit.Below w.heap.size w w' ∧ Sl w' sd d ∧ ∃ (i : Nat) (m' : List (El 16)), t 63 = .int .i64 (i : Int) ∧ i ≤ 2 ^ k' ∧ Ow w.heap.size w' sv m' ∧ m'.length = 2 ^ k' ∧ ∀ x, (co m').c x = if x < i then (co m).c x + (co d).c x else (co m).c x)
            (fun t _ => 2 ^ k' - (toI (t 63)).toNat) ⟨by simp only [WS, List.getElem_cons_zero, List.getElem_cons_succ, Option.isNone_some, Option.isNone_none, List.getD_cons_zero, List.getD_cons_succ, I.at, atL, atO, atP, evp, evs, retV, ↓reduceIte, Nat.reduceEqDiff, reduceCtorEq]; exact t0, by simp only [WS, List.getElem_cons_zero, List.getElem_cons_succ, Option.isNone_some, Option.isNone_none, List.getD_cons_zero, List.getD_cons_succ, I.at, atL, atO, atP, evp, evs, retV, ↓reduceIte, Nat.reduceEqDiff, reduceCtorEq]; exact t1, by simp only [WS, List.getElem_cons_zero, List.getElem_cons_succ, Option.isNone_some, Option.isNone_none, List.getD_cons_zero, List.getD_cons_succ, I.at, atL, atO, atP, evp, evs, retV, ↓reduceIte, Nat.reduceEqDiff, reduceCtorEq]; exact t2, by simp only [WS, List.getElem_cons_zero, List.getElem_cons_succ, Option.isNone_some, Option.isNone_none, List.getD_cons_zero, List.getD_cons_succ, I.at, atL, atO, atP, evp, evs, retV, ↓reduceIte, Nat.reduceEqDiff, reduceCtorEq]; exact t8, by simp only [WS, List.getElem_cons_zero, List.getElem_cons_succ, Option.isNone_some, Option.isNone_none, List.getD_cons_zero, List.getD_cons_succ, I.at, atL, atO, atP, evp, evs, retV, ↓reduceIte, Nat.reduceEqDiff, reduceCtorEq]; exact t9, by simp only [WS, List.getElem_cons_zero, List.getElem_cons_succ, Option.isNone_some, Option.isNone_none, List.getD_cons_zero, List.getD_cons_succ, I.at, atL, atO, atP, evp, evs, retV, ↓reduceIte, Nat.reduceEqDiff, reduceCtorEq], by simp only [WS, List.getElem_cons_zero, List.getElem_cons_succ, Option.isNone_some, Option.isNone_none, List.getD_cons_zero, List.getD_cons_succ, I.at, atL, atO, atP, evp, evs, retV, ↓reduceIte, Nat.reduceEqDiff, reduceCtorEq], hB, od, 0, m, rfl, by omega, om, hml, fun x => by rw [if_neg (by omega)]⟩ ?_
          clear t0 t1 t2 t8 t9 hB od om
          rintro t w4 ⟨t0, t1, t2, t8, t9, t61, t62, hB, od, i, m', t63, hi, om, hml', hco⟩
          by_cases hil : i < 2 ^ k'
          · have him : i < m'.length := by omega
            have hid : i < d.length := by omega
            simp (maxSteps := 1000000) (disch := omega) only [WS, List.getElem_cons_zero, List.getElem_cons_succ, Option.isNone_some, Option.isNone_none, List.getD_cons_zero, List.getD_cons_succ, I.at, atL, atO, atP, evp, evs, retV, ↓reduceIte, Nat.reduceEqDiff, reduceCtorEq, AS, t0, t1, t2, t8, t9, t61, t62, t63, od.Xix hid, od.Xld hid, om.sl.Xix him, om.sl.Xld him, cell_e16, xor16]
            refine Ow.Xst om him (m'[i] + d[i]) fun w5 om5 hg5 => ?_
            simp (maxSteps := 1000000) (disch := omega) only [WS, List.getElem_cons_zero, List.getElem_cons_succ, Option.isNone_some, Option.isNone_none, List.getD_cons_zero, List.getD_cons_succ, I.at, atL, atO, atP, evp, evs, retV, ↓reduceIte, Nat.reduceEqDiff, reduceCtorEq, AS, t0, t1, t2, t8, t9, t61, t62, t63]
            refine ⟨⟨hB.grown hg5 hB.size svb, od.grown hg5 (Or.inl hne), i + 1, _, rfl, by omega, om5, by simp [hml'], fun x => ?_⟩, by omega⟩
            rw [co_set _ him, hco x]
            by_cases hx : x = i
            · subst hx
              have := hco x
              rw [if_neg (by omega), co_get m' him] at this
              rw [if_pos rfl, if_pos (by omega), this, co_get d hid]
            · rw [if_neg hx]
              by_cases hxi : x < i
              · rw [if_pos hxi, if_pos (by omega)]
              · rw [if_neg hxi, if_neg (by omega)]
          · simp (maxSteps := 1000000) (disch := omega) only [WS, List.getElem_cons_zero, List.getElem_cons_succ, Option.isNone_some, Option.isNone_none, List.getD_cons_zero, List.getD_cons_succ, I.at, atL, atO, atP, evp, evs, retV, ↓reduceIte, Nat.reduceEqDiff, reduceCtorEq, AS, t0, t1, t2, t8, t9, t61, t62, t63, wB]
            refine ⟨⟨hB, p + 1, m', by rw [← hP, Nat.add_mul, Nat.one_mul], by omega, om, hml', fun x hx => ?_⟩, by omega⟩
            rw [hco x, if_pos (by omega), hm x hx, hd x hx]
            show _ = esum p _ + itI (A + p * 2 ^ k') k' (fun j => (co l).c (p * 2 ^ k' + j)) x
            rw [hP]
            congr 1
            refine itI_loc (n := 2 ^ k') (Nat.mod_self _) (fun j hj => ?_) x hx
            rw [co_drop, co_takeL, if_pos (by omega)]
        · obtain rfl : p = q := by omega
          simp (maxSteps := 1000000) (disch := omega) only [WS, List.getElem_cons_zero, List.getElem_cons_succ, Option.isNone_some, Option.isNone_none, List.getD_cons_zero, List.getD_cons_succ, I.at, atL, atO, atP, evp, evs, retV, ↓reduceIte, Nat.reduceEqDiff, reduceCtorEq, AS, t0, t1, t2, t8, t9, h'.Xlen, hq]
          exact ⟨hB, Or.inl ⟨k, p, hk, rfl, rfl, by rintro rfl; rw [Nat.zero_mul] at hq; omega, hq ▸ hc, sv, m, rfl, om, hml, hm⟩⟩
    · simp (maxSteps := 1000000) (disch := omega) only [WS, List.getElem_cons_zero, List.getElem_cons_succ, Option.isNone_some, Option.isNone_none, List.getD_cons_zero, List.getD_cons_succ, I.at, atL, atO, atP, evp, evs, retV, ↓reduceIte, Nat.reduceEqDiff, reduceCtorEq, AS, h.Xlen, X_rem, hnz, tmod_nat]
      exact ⟨RowKit.Below.refl _ _, Or.inr (Or.inr (Or.inl (Or.inr hmod)))⟩
end Go.Proofs.Ytpmfeaajpjjfiaa.Fw

set_option linter.unusedVariables false
set_option linter.unusedSimpArgs false
set_option maxRecDepth 100000
set_option maxHeartbeats 1000000
namespace Go.Proofs.Ytpmfeaajpjjfiaa.Fw
open Go Go.Fw Go.Proofs
attribute [local irreducible] stepI
def c_afft_refuses : C := .seq (.ops [⟨0, (some 4), none, .mov (.c (.int .i64 0)), []⟩]) (.seq (.ops [⟨0, (some 8), none, .mov (.t 0), []⟩, ⟨1, (some 9), none, .len (.t 8), []⟩, ⟨2, (some 5), none, .mov (.t 9), []⟩]) (.seq (.seq (.ops [⟨0, (some 10), none, .mov (.t 5), []⟩, ⟨1, (some 11), none, .call (.c (.func (.func 34) #[] #[])) [.t 10], []⟩, ⟨2, (some 12), none, .un .not (.t 11), []⟩]) (.ite (.t 12) (.seq (.ops [⟨0, (some 4), none, .mov (.c (.int .i64 130)), []⟩]) .ret) .skip)) (.seq (.seq (.ops [⟨0, (some 13), none, .mov (.t 0), []⟩, ⟨1, (some 14), none, .len (.t 13), []⟩, ⟨2, (some 15), none, .mov (.c (.int .i64 0)), []⟩]) (.block 0 (.loop (.seq (.ops [⟨0, (some 16), none, .bin .lss (.t 15) (.t 14), []⟩]) (.seq (.ite (.t 16) .skip (.exit 0)) (.seq (.block 1 (.seq (.ops [⟨0, (some 17), none, .ixs 1 (.t 13) (.t 15), []⟩, ⟨1, (some 18), none, .ld (.t 17), []⟩, ⟨2, (some 7), none, .mov (.t 18), []⟩]) (.seq (.ops [⟨0, (some 19), none, .mov (.t 7), []⟩, ⟨1, (some 20), none, .len (.t 19), []⟩, ⟨2, (some 21), none, .mov (.t 0), []⟩, ⟨3, (some 22), none, .ixs 1 (.t 21) (.c (.int .i64 0)), []⟩, ⟨4, (some 23), none, .ld (.t 22), []⟩, ⟨5, (some 24), none, .len (.t 23), []⟩, ⟨6, (some 25), none, .bin .neq (.t 20) (.t 24), []⟩]) (.ite (.t 25) (.seq (.ops [⟨0, (some 4), none, .mov (.c (.int .i64 6)), []⟩]) .ret) .skip)))) (.ops [⟨0, (some 26), none, .bin .add (.t 15) (.c (.int .i64 1)), []⟩, ⟨1, (some 15), none, .mov (.t 26), []⟩]))))))) (.seq (.seq (.ops [⟨0, (some 27), none, .mov (.t 1), []⟩, ⟨1, (some 28), none, .mov (.t 5), []⟩, ⟨2, (some 29), none, .mov (.t 5), []⟩, ⟨3, (some 30), none, .call (.c (.func (.func 35) #[] #[])) [.t 27, .t 28, .t 29], []⟩, ⟨4, (some 31), none, .un .not (.t 30), []⟩]) (.ite (.t 31) (.seq (.ops [⟨0, (some 4), none, .mov (.c (.int .i64 140)), []⟩]) .ret) .skip)) (.seq (.ops [⟨0, (some 4), none, .mov (.c (.int .i64 0)), []⟩]) .ret)))))
attribute [irreducible] c_afft_refuses
theorem run_afft_refuses {args : List Value} {w : World} {K : Value → World → Prop} (hn : args.length ≤ 32) (h : WP Try.prog c_afft_refuses (endQ [.t 4] K) (initT args) w) : CallV Try.prog 41 args w K :=
  call_of follows Try.func41 (by kernel_rfl) (by kernel_rfl) hn h
end Go.Proofs.Ytpmfeaajpjjfiaa.Fw
namespace Go.Proofs.Ytpmfeaajpjjfiaa.Fw
open Go Go.Fw
/-- Column c of rows. -/
def colf (R : List (List (El 16))) (c : Nat) (i : Nat) : El 16 := (co (R.getD i [])).c c
theorem colf_set (R : List (List (El 16))) {i : Nat} (h : i < R.length) (a : List (El 16)) (c x : Nat) : colf (R.set i a) c x = if x = i then (co a).c c else colf R c x := by
  unfold colf
  simp only [List.getD_eq_getElem?_getD, List.getElem?_set]
  by_cases hx : x = i
  · subst hx; rw [if_pos rfl, if_pos rfl, if_pos h]; rfl
  · rw [if_neg (fun e => hx e.symm), if_neg hx]
theorem getD_set (R : List (List (El 16))) {i : Nat} (h : i < R.length) (a : List (El 16)) (x : Nat) : (R.set i a).getD x [] = if x = i then a else R.getD x [] := by
  simp only [List.getD_eq_getElem?_getD, List.getElem?_set]
  by_cases hx : x = i
  · subst hx; rw [if_pos rfl, if_pos rfl, if_pos h]; rfl
  · rw [if_neg (fun e => hx e.symm), if_neg hx]
theorem set_getD (R : List (List (El 16))) {i : Nat} (h : i < R.length) : R.set i (R.getD i []) = R := by
  rw [List.getD_eq_getElem?_getD, List.getElem?_eq_getElem h]; simp
theorem afft_refuses_spec (w : World) (rows : Value) (hs : List Hd) (a : Int) (h : Sl w rows hs) (hb : hs.length ≤ 70368744175616) :
    CallV Try.prog 41 [rows, .int .i64 a] w fun v w' => w' = w ∧ ((isP (hs.length : Int) = false ∧ v = .int .i64 130) ∨ (isP (hs.length : Int) = true ∧ ¬ (∀ x ∈ hs, x.n = (hs.headD ⟨none, 0, 0⟩).n) ∧ v = .int .i64 6) ∨
      (isP (hs.length : Int) = true ∧ (∀ x ∈ hs, x.n = (hs.headD ⟨none, 0, 0⟩).n) ∧ isC a hs.length hs.length = false ∧ v = .int .i64 140) ∨ (isP (hs.length : Int) = true ∧ (∀ x ∈ hs, x.n = (hs.headD ⟨none, 0, 0⟩).n) ∧ isC a hs.length hs.length = true ∧ v = .int .i64 0)) := by
  refine run_afft_refuses (by simp) ?_
  simp only [c_afft_refuses, WS, List.getElem_cons_zero, List.getElem_cons_succ, Option.isNone_some, Option.isNone_none, List.getD_cons_zero, List.getD_cons_succ, I.at, atL, atO, atP, evp, evs, retV, ↓reduceIte, Nat.reduceEqDiff, reduceCtorEq, h.Xlen]
  refine X_call0 ((afft_power_spec w _).mono ?_)
  rintro _ w' ⟨rfl, rfl⟩
  cases hp : isP (hs.length : Int) with
  | false =>
    simp (maxSteps := 1000000) (disch := omega) only [WS, List.getElem_cons_zero, List.getElem_cons_succ, Option.isNone_some, Option.isNone_none, List.getD_cons_zero, List.getD_cons_succ, I.at, atL, atO, atP, evp, evs, retV, ↓reduceIte, Nat.reduceEqDiff, reduceCtorEq, AS]
    exact Or.inl trivial
  | true =>
    obtain ⟨k, hk, hlk⟩ := (isP_iff _).1 hp
    have hp0 := Nat.two_pow_pos k
    have h0 : 0 < hs.length := by omega
    have hhd : hs.headD ⟨none, 0, 0⟩ = hs[0] := by cases hs with
      | nil => simp at h0
      | cons x l => rfl
    rw [hhd]
    simp (maxSteps := 1000000) (disch := omega) only [WS, List.getElem_cons_zero, List.getElem_cons_succ, Option.isNone_some, Option.isNone_none, List.getD_cons_zero, List.getD_cons_succ, I.at, atL, atO, atP, evp, evs, retV, ↓reduceIte, Nat.reduceEqDiff, reduceCtorEq, AS, h.Xlen]
    refine loop_of (fun t w => w = w' ∧ t 0 = rows ∧ t 1 = .int .i64 a ∧ t 5 = .int .i64 (hs.length : Int) ∧ t 13 = rows ∧ t 14 = .int .i64 (hs.length : Int) ∧ ∃ i : Nat, t 15 = .int .i64 (i : Int) ∧ i ≤ hs.length ∧ ∀ x ∈ hs.take i, x.n = hs[0].n) (fun t _ => hs.length - (toI (t 15)).toNat)
      ⟨rfl, by simp only [WS, List.getElem_cons_zero, List.getElem_cons_succ, Option.isNone_some, Option.isNone_none, List.getD_cons_zero, List.getD_cons_succ, I.at, atL, atO, atP, evp, evs, retV, ↓reduceIte, Nat.reduceEqDiff, reduceCtorEq], by simp only [WS, List.getElem_cons_zero, List.getElem_cons_succ, Option.isNone_some, Option.isNone_none, List.getD_cons_zero, List.getD_cons_succ, I.at, atL, atO, atP, evp, evs, retV, ↓reduceIte, Nat.reduceEqDiff, reduceCtorEq], by simp only [WS, List.getElem_cons_zero, List.getElem_cons_succ, Option.isNone_some, Option.isNone_none, List.getD_cons_zero, List.getD_cons_succ, I.at, atL, atO, atP, evp, evs, retV, ↓reduceIte, Nat.reduceEqDiff, reduceCtorEq], by simp only [WS, List.getElem_cons_zero, List.getElem_cons_succ, Option.isNone_some, Option.isNone_none, List.getD_cons_zero, List.getD_cons_succ, I.at, atL, atO, atP, evp, evs, retV, ↓reduceIte, Nat.reduceEqDiff, reduceCtorEq], by simp only [WS, List.getElem_cons_zero, List.getElem_cons_succ, Option.isNone_some, Option.isNone_none, List.getD_cons_zero, List.getD_cons_succ, I.at, atL, atO, atP, evp, evs, retV, ↓reduceIte, Nat.reduceEqDiff, reduceCtorEq], 0, rfl, by omega, by simp⟩ ?_
    rintro t w ⟨rfl, t0, t1, t5, t13, t14, i, t15, hi, hall⟩
    by_cases hlt : i < hs.length
    · simp (maxSteps := 1000000) (disch := omega) only [WS, List.getElem_cons_zero, List.getElem_cons_succ, Option.isNone_some, Option.isNone_none, List.getD_cons_zero, List.getD_cons_succ, I.at, atL, atO, atP, evp, evs, retV, ↓reduceIte, Nat.reduceEqDiff, reduceCtorEq, AS, t0, t1, t5, t13, t14, t15, h.Xix hlt, h.Xld hlt, h.Xix0 h0, h.Xld h0, cell_hd, X_lenS]
      by_cases hn : hs[i].n = hs[0].n
      · have d1 : decide ((hs[i].n : Int) = (hs[0].n : Int)) = true := decide_eq_true (by omega)
        simp (maxSteps := 1000000) (disch := omega) only [WS, List.getElem_cons_zero, List.getElem_cons_succ, Option.isNone_some, Option.isNone_none, List.getD_cons_zero, List.getD_cons_succ, I.at, atL, atO, atP, evp, evs, retV, ↓reduceIte, Nat.reduceEqDiff, reduceCtorEq, AS, t0, t1, t5, t13, t14, t15, d1]
        refine ⟨⟨i + 1, rfl, by omega, fun x hx => ?_⟩, by omega⟩
        rw [List.take_add_one, List.getElem?_eq_getElem hlt] at hx
        rcases List.mem_append.1 hx with h1 | h1
        · exact hall x h1
        · simp at h1; subst h1; exact hn
      · have d1 : decide ((hs[i].n : Int) = (hs[0].n : Int)) = false := decide_eq_false (by omega)
        simp (maxSteps := 1000000) (disch := omega) only [WS, List.getElem_cons_zero, List.getElem_cons_succ, Option.isNone_some, Option.isNone_none, List.getD_cons_zero, List.getD_cons_succ, I.at, atL, atO, atP, evp, evs, retV, ↓reduceIte, Nat.reduceEqDiff, reduceCtorEq, AS, t0, t1, t5, t13, t14, t15, d1]
        exact Or.inr (Or.inl fun h => hn (h _ (List.getElem_mem hlt)))
    · have hall : ∀ x ∈ hs, x.n = hs[0].n := by rw [List.take_of_length_le (by omega)] at hall; exact hall
      simp (maxSteps := 1000000) (disch := omega) only [WS, List.getElem_cons_zero, List.getElem_cons_succ, Option.isNone_some, Option.isNone_none, List.getD_cons_zero, List.getD_cons_succ, I.at, atL, atO, atP, evp, evs, retV, ↓reduceIte, Nat.reduceEqDiff, reduceCtorEq, AS, t0, t1, t5, t13, t14, t15]
      refine X_call0 ((afft_begins_spec w a hs.length hs.length (by omega)).mono ?_)
      rintro _ w' ⟨rfl, rfl⟩
      cases hc : isC a hs.length hs.length with
      | false =>
        simp (maxSteps := 1000000) (disch := omega) only [WS, List.getElem_cons_zero, List.getElem_cons_succ, Option.isNone_some, Option.isNone_none, List.getD_cons_zero, List.getD_cons_succ, I.at, atL, atO, atP, evp, evs, retV, ↓reduceIte, Nat.reduceEqDiff, reduceCtorEq, AS]
        exact Or.inr (Or.inr (Or.inl hall))
      | true =>
        simp (maxSteps := 1000000) (disch := omega) only [WS, List.getElem_cons_zero, List.getElem_cons_succ, Option.isNone_some, Option.isNone_none, List.getD_cons_zero, List.getD_cons_succ, I.at, atL, atO, atP, evp, evs, retV, ↓reduceIte, Nat.reduceEqDiff, reduceCtorEq, AS]
        exact Or.inr (Or.inr (Or.inr hall))
end Go.Proofs.Ytpmfeaajpjjfiaa.Fw

set_option linter.unusedVariables false
set_option linter.unusedSimpArgs false
set_option maxRecDepth 100000
set_option maxHeartbeats 1000000
namespace Go.Proofs.Ytpmfeaajpjjfiaa.Fw
open Go Go.Fw Go.Proofs
attribute [local irreducible] stepI
def c_afft_ForwardRows : C := .seq (.ops [⟨0, (some 4), none, .mov (.c (.int .i64 0)), []⟩]) (.seq (.seq (.ops [⟨0, (some 12), none, .mov (.t 0), []⟩, ⟨1, (some 13), none, .mov (.t 1), []⟩, ⟨2, (some 14), none, .call (.c (.func (.func 41) #[] #[])) [.t 12, .t 13], []⟩, ⟨3, (some 5), none, .mov (.t 14), []⟩]) (.seq (.ops [⟨0, (some 15), none, .mov (.t 5), []⟩, ⟨1, (some 16), none, .bin .neq (.t 15) (.c (.int .i64 0)), []⟩]) (.ite (.t 16) (.seq (.ops [⟨0, (some 17), none, .mov (.t 5), []⟩, ⟨1, (some 4), none, .mov (.t 17), []⟩]) .ret) .skip))) (.seq (.ops [⟨0, (some 18), none, .mov (.t 0), []⟩, ⟨1, (some 19), none, .len (.t 18), []⟩, ⟨2, (some 6), none, .mov (.t 19), []⟩]) (.seq (.seq (.ops [⟨0, (some 20), none, .mov (.t 6), []⟩, ⟨1, (some 21), none, .call (.c (.func (.func 38) #[] #[])) [.t 20], []⟩, ⟨2, (some 22), none, .mov (.t 6), []⟩, ⟨3, (some 23), none, .bin .quo (.t 22) (.c (.int .i64 2)), []⟩, ⟨4, (some 7), none, .mov (.t 21), []⟩, ⟨5, (some 8), none, .mov (.t 23), []⟩]) (.block 0 (.loop (.seq (.seq (.ops [⟨0, (some 24), none, .mov (.t 8), []⟩, ⟨1, (some 25), none, .bin .gtr (.t 24) (.c (.int .i64 0)), []⟩]) (.ite (.t 25) .skip (.exit 0))) (.seq (.block 1 (.seq (.ops [⟨0, (some 9), none, .mov (.c (.int .i64 0)), []⟩]) (.block 2 (.loop (.seq (.seq (.ops [⟨0, (some 30), none, .mov (.t 9), []⟩, ⟨1, (some 31), none, .mov (.t 6), []⟩, ⟨2, (some 32), none, .bin .lss (.t 30) (.t 31), []⟩]) (.ite (.t 32) .skip (.exit 2))) (.seq (.block 3 (.seq (.ops [⟨0, (some 37), none, .mov (.t 7), []⟩, ⟨1, (some 38), none, .mov (.t 1), []⟩, ⟨2, (some 39), none, .mov (.t 9), []⟩, ⟨3, (some 40), none, .bin .add (.t 38) (.t 39), []⟩, ⟨4, (some 41), none, .call (.c (.func (.func 37) #[] #[])) [.t 37, .t 40], []⟩, ⟨5, (some 10), none, .mov (.t 41), []⟩]) (.seq (.ops [⟨0, (some 42), none, .mov (.t 9), []⟩, ⟨1, (some 11), none, .mov (.t 42), []⟩]) (.block 4 (.loop (.seq (.seq (.ops [⟨0, (some 43), none, .mov (.t 11), []⟩, ⟨1, (some 44), none, .mov (.t 9), []⟩, ⟨2, (some 45), none, .mov (.t 8), []⟩, ⟨3, (some 46), none, .bin .add (.t 44) (.t 45), []⟩, ⟨4, (some 47), none, .bin .lss (.t 43) (.t 46), []⟩]) (.ite (.t 47) .skip (.exit 4))) (.seq (.block 5 (.dops [⟨0, (some 50), none, .mov (.t 10), []⟩, ⟨1, (some 51), none, .mov (.t 0), []⟩, ⟨2, (some 52), none, .mov (.t 11), []⟩, ⟨3, (some 53), none, .ixs 1 (.t 51) (.t 52), []⟩, ⟨4, (some 54), none, .ld (.t 53), []⟩, ⟨5, (some 55), none, .mov (.t 0), []⟩, ⟨6, (some 56), none, .mov (.t 11), []⟩, ⟨7, (some 57), none, .mov (.t 8), []⟩, ⟨8, (some 58), none, .bin .add (.t 56) (.t 57), []⟩, ⟨9, (some 59), none, .ixs 1 (.t 55) (.t 58), []⟩, ⟨10, (some 60), none, .ld (.t 59), []⟩, ⟨11, (some 61), none, .call (.c (.func (.func 39) #[] #[])) [.t 50, .t 54, .t 60], []⟩])) (.ops [⟨0, (some 48), none, .mov (.t 11), []⟩, ⟨1, (some 49), none, .bin .add (.t 48) (.c (.int .i64 1)), []⟩, ⟨2, (some 11), none, .mov (.t 49), []⟩])))))))) (.ops [⟨0, (some 33), none, .mov (.t 9), []⟩, ⟨1, (some 34), none, .mov (.t 8), []⟩, ⟨2, (some 35), none, .bin .mul (.c (.int .i64 2)) (.t 34), []⟩, ⟨3, (some 36), none, .bin .add (.t 33) (.t 35), []⟩, ⟨4, (some 9), none, .mov (.t 36), []⟩]))))))) (.ops [⟨0, (some 26), none, .mov (.t 7), []⟩, ⟨1, (some 27), none, .bin .sub (.t 26) (.c (.int .i64 1)), []⟩, ⟨2, (some 28), none, .mov (.t 8), []⟩, ⟨3, (some 29), none, .bin .quo (.t 28) (.c (.int .i64 2)), []⟩, ⟨4, (some 7), none, .mov (.t 27), []⟩, ⟨5, (some 8), none, .mov (.t 29), []⟩])))))) (.seq (.ops [⟨0, (some 4), none, .mov (.c (.int .i64 0)), []⟩]) .ret))))
attribute [irreducible] c_afft_ForwardRows
theorem run_afft_ForwardRows {args : List Value} {w : World} {K : Value → World → Prop} (hn : args.length ≤ 62) (h : WP Try.prog c_afft_ForwardRows (endQ [.t 4] K) (initT args) w) : CallV Try.prog 24 args w K :=
  call_of follows Try.func24 (by kernel_rfl) (by kernel_rfl) hn h
end Go.Proofs.Ytpmfeaajpjjfiaa.Fw
namespace Go.Proofs.Ytpmfeaajpjjfiaa.Fw
open Go Go.Fw
theorem rws_len {M : List (List (El 16)) → World → Prop} {rows : Value} {hs : List Hd} (h : Rws M rows hs) {R : List (List (El 16))} {w : World} (hm : M R w) {i : Nat} (hi : i < hs.length) : hs[i].n = (R.getD i []).length := by
  have hl := (h.hd R w hm).2
  have := (h.wr R i hi hl).sl (R.getD i []) w (by rw [set_getD R (by omega)]; exact hm)
  obtain ⟨a, c, e, -, -⟩ := this.sh
  rw [cell_hd] at e
  injection e
theorem all_n {hs : List Hd} {R : List (List (El 16))} (hl : ∀ i (hi : i < hs.length), hs[i].n = (R.getD i []).length) (h0 : 0 < hs.length) : (∀ x ∈ hs, x.n = (hs.headD ⟨none, 0, 0⟩).n) ↔ ∃ q, ∀ i, i < hs.length → (R.getD i []).length = q := by
  have hhd : hs.headD ⟨none, 0, 0⟩ = hs[0] := by cases hs with
    | nil => simp at h0
    | cons x l => rfl
  rw [hhd]
  constructor
  · intro h; exact ⟨hs[0].n, fun i hi => by rw [← hl i hi]; exact h _ (List.getElem_mem hi)⟩
  · rintro ⟨q, hq⟩ x hx
    obtain ⟨i, hi, rfl⟩ := List.mem_iff_getElem.1 hx
    rw [hl i hi, hl 0 h0, hq i hi, hq 0 h0]
theorem afft_ForwardRows_spec {M : List (List (El 16)) → World → Prop} (w : World) (rows : Value) (hs : List Hd) (R : List (List (El 16))) (a : Int) (hM : Rws M rows hs) (hm : M R w) (hb : hs.length ≤ 70368744175616) (hbr : ∀ i, i < hs.length → (R.getD i []).length ≤ 70368744175616) :
    CallV Try.prog 24 [rows, .int .i64 a] w fun v w' => (∃ k q, k ≤ 16 ∧ hs.length = 2 ^ k ∧ isC a (2 ^ k) (2 ^ k) = true ∧ (∀ i, i < 2 ^ k → (R.getD i []).length = q) ∧ v = .int .i64 0 ∧ ∃ R', M R' w' ∧ R'.length = R.length ∧ (∀ i, i < 2 ^ k → (R'.getD i []).length = q) ∧ ∀ i c, i < 2 ^ k → colf R' c i = itF a.toNat k (colf R c) i) ∨
      (w' = w ∧ ((isP (hs.length : Int) = false ∧ v = .int .i64 130) ∨ (isP (hs.length : Int) = true ∧ ¬ (∃ q, ∀ i, i < hs.length → (R.getD i []).length = q) ∧ v = .int .i64 6) ∨ (isP (hs.length : Int) = true ∧ (∃ q, ∀ i, i < hs.length → (R.getD i []).length = q) ∧ isC a hs.length hs.length = false ∧ v = .int .i64 140))) := by
  refine run_afft_ForwardRows (by simp) ?_
  obtain ⟨hsl, hRl⟩ := hM.hd R w hm
  have hlen := fun i (hi : i < hs.length) => rws_len hM hm hi
  simp only [c_afft_ForwardRows, WS, List.getElem_cons_zero, List.getElem_cons_succ, Option.isNone_some, Option.isNone_none, List.getD_cons_zero, List.getD_cons_succ, I.at, atL, atO, atP, evp, evs, retV, ↓reduceIte, Nat.reduceEqDiff, reduceCtorEq]
  refine X_call0 ((afft_refuses_spec w rows hs a hsl hb).mono ?_)
  rintro _ w' ⟨rfl, ⟨hp, rfl⟩ | ⟨hp, hn, rfl⟩ | ⟨hp, hn, hc, rfl⟩ | ⟨hp, hn, hc, rfl⟩⟩
  · simp (maxSteps := 1000000) (disch := omega) only [WS, List.getElem_cons_zero, List.getElem_cons_succ, Option.isNone_some, Option.isNone_none, List.getD_cons_zero, List.getD_cons_succ, I.at, atL, atO, atP, evp, evs, retV, ↓reduceIte, Nat.reduceEqDiff, reduceCtorEq, AS]
    exact Or.inr (Or.inl hp)
  · have h0 : 0 < hs.length := by obtain ⟨k, hk, hlk⟩ := (isP_iff _).1 hp; have := Nat.two_pow_pos k; omega
    rw [all_n hlen h0] at hn
    simp (maxSteps := 1000000) (disch := omega) only [WS, List.getElem_cons_zero, List.getElem_cons_succ, Option.isNone_some, Option.isNone_none, List.getD_cons_zero, List.getD_cons_succ, I.at, atL, atO, atP, evp, evs, retV, ↓reduceIte, Nat.reduceEqDiff, reduceCtorEq, AS]
    exact Or.inr (Or.inr (Or.inl ⟨hp, hn⟩))
  · have h0 : 0 < hs.length := by obtain ⟨k, hk, hlk⟩ := (isP_iff _).1 hp; have := Nat.two_pow_pos k; omega
    rw [all_n hlen h0] at hn
    simp (maxSteps := 1000000) (disch := omega) only [WS, List.getElem_cons_zero, List.getElem_cons_succ, Option.isNone_some, Option.isNone_none, List.getD_cons_zero, List.getD_cons_succ, I.at, atL, atO, atP, evp, evs, retV, ↓reduceIte, Nat.reduceEqDiff, reduceCtorEq, AS]
    exact Or.inr (Or.inr (Or.inr ⟨hp, hn, hc⟩))
  obtain ⟨k, hk, hlk⟩ := (isP_iff _).1 hp
  have hp0 := Nat.two_pow_pos k
  have hp16 := pow_le16 hk
  have hlk : hs.length = 2 ^ k := by omega
  rw [all_n hlen (by omega)] at hn
  obtain ⟨q, hq⟩ := hn
  have hq46 : q ≤ 70368744175616 := by rw [← hq 0 (by omega)]; exact hbr 0 (by omega)
  rw [hlk] at hc hq hRl
  have hc2 := hc
  unfold isC at hc2
  obtain ⟨c1, c2, c3, c4⟩ := of_decide_eq_true hc2
  obtain ⟨A, rfl⟩ : ∃ A : Nat, a = (A : Int) := ⟨a.toNat, by omega⟩
  rw [Int.toNat_natCast] at c4
  rw [Int.toNat_natCast]
  simp (maxSteps := 1000000) (disch := omega) only [WS, List.getElem_cons_zero, List.getElem_cons_succ, Option.isNone_some, Option.isNone_none, List.getD_cons_zero, List.getD_cons_succ, I.at, atL, atO, atP, evp, evs, retV, ↓reduceIte, Nat.reduceEqDiff, reduceCtorEq, AS, hsl.Xlen, hlk]
  refine X_call0 ((afft_levels_spec w' k hk).mono ?_)
  rintro _ w ⟨rfl, rfl⟩
  have e0 : IntKind.i64.wrap (((2 ^ k : Nat) : Int).tdiv 2) = ((2 ^ k / 2 : Nat) : Int) := by rw [show (2 : Int) = ((2 : Nat) : Int) from rfl, tdiv_nat, wrap_64 _ (by omega)]
  simp (maxSteps := 1000000) (disch := omega) only [WS, List.getElem_cons_zero, List.getElem_cons_succ, Option.isNone_some, Option.isNone_none, List.getD_cons_zero, List.getD_cons_succ, I.at, atL, atO, atP, evp, evs, retV, ↓reduceIte, Nat.reduceEqDiff, reduceCtorEq, AS, X_quo, e0, show ((2 : Int) ≠ 0) = True from eq_true (by decide)]
  refine loop_of (fun t w' => t 0 = rows ∧ t 1 = .int .i64 (A : Int) ∧ t 6 = .int .i64 ((2 ^ k : Nat) : Int) ∧ ∃ (r : Nat) (R' : List (List (El 16))), t 7 = .int .i64 ((r : Int) - 1) ∧ t 8 = .int .i64 ((2 ^ r / 2 : Nat) : Int) ∧ r ≤ k ∧ M R' w' ∧ R'.length = 2 ^ k ∧ (∀ i, i < 2 ^ k → (R'.getD i []).length = q) ∧
      ∀ c i, i < 2 ^ k → itF A r (colf R' c) i = itF A k (colf R c) i) (fun t _ => (toI (t 8)).toNat) ⟨by simp only [WS, List.getElem_cons_zero, List.getElem_cons_succ, Option.isNone_some, Option.isNone_none, List.getD_cons_zero, List.getD_cons_succ, I.at, atL, atO, atP, evp, evs, retV, ↓reduceIte, Nat.reduceEqDiff, reduceCtorEq], by simp only [WS, List.getElem_cons_zero, List.getElem_cons_succ, Option.isNone_some, Option.isNone_none, List.getD_cons_zero, List.getD_cons_succ, I.at, atL, atO, atP, evp, evs, retV, ↓reduceIte, Nat.reduceEqDiff, reduceCtorEq], by simp only [WS, List.getElem_cons_zero, List.getElem_cons_succ, Option.isNone_some, Option.isNone_none, List.getD_cons_zero, List.getD_cons_succ, I.at, atL, atO, atP, evp, evs, retV, ↓reduceIte, Nat.reduceEqDiff, reduceCtorEq], k, R, rfl, rfl, Nat.le_refl _, hm, hRl, hq, fun c i _ => rfl⟩ ?_
  clear hm hsl
  rintro t w2 ⟨t0, t1, t6, r, Rm, t7, t8, hr, hm, hml, hqm, hit⟩
  cases r with
  | zero =>
    simp (maxSteps := 1000000) (disch := omega) only [WS, List.getElem_cons_zero, List.getElem_cons_succ, Option.isNone_some, Option.isNone_none, List.getD_cons_zero, List.getD_cons_succ, I.at, atL, atO, atP, evp, evs, retV, ↓reduceIte, Nat.reduceEqDiff, reduceCtorEq, AS, t0, t1, t6, t7, t8, show decide ((0 : Int) < ((2 ^ 0 / 2 : Nat) : Int)) = false from rfl]
    exact Or.inl ⟨k, q, hk, rfl, hc, hq, Rm, hm, by omega, hqm, fun i c hi => hit c i hi⟩
  | succ j =>
  have hj1 : 2 ^ (j + 1) / 2 = 2 ^ j := by rw [Nat.pow_succ]; omega
  rw [hj1] at t8
  have e8 : ((j + 1 : Nat) : Int) - 1 = (j : Int) := by omega
  rw [e8] at t7
  · have hj0 := Nat.two_pow_pos j
    have hjk : 2 ^ j < 2 ^ k := Nat.pow_lt_pow_right (by omega) (by omega)
    have hmk := pow_mod_half (show j < k by omega)
    simp (maxSteps := 1000000) (disch := omega) only [WS, List.getElem_cons_zero, List.getElem_cons_succ, Option.isNone_some, Option.isNone_none, List.getD_cons_zero, List.getD_cons_succ, I.at, atL, atO, atP, evp, evs, retV, ↓reduceIte, Nat.reduceEqDiff, reduceCtorEq, AS, t0, t1, t6, t7, t8]
    refine loop_of (fun t w' => t 0 = rows ∧ t 1 = .int .i64 (A : Int) ∧ t 6 = .int .i64 ((2 ^ k : Nat) : Int) ∧ t 7 = .int .i64 (j : Int) ∧ t 8 = .int .i64 ((2 ^ j : Nat) : Int) ∧ ∃ (o : Nat) (R' : List (List (El 16))), t 9 = .int .i64 (o : Int) ∧ o ≤ 2 ^ k ∧ o % (2 * 2 ^ j) = 0 ∧ M R' w' ∧ R'.length = 2 ^ k ∧ (∀ i, i < 2 ^ k → (R'.getD i []).length = q) ∧
        ∀ c i, colf R' c i = if i < o then bfn j A (colf Rm c) i else colf Rm c i) (fun t _ => 2 ^ k - (toI (t 9)).toNat) ⟨by simp only [WS, List.getElem_cons_zero, List.getElem_cons_succ, Option.isNone_some, Option.isNone_none, List.getD_cons_zero, List.getD_cons_succ, I.at, atL, atO, atP, evp, evs, retV, ↓reduceIte, Nat.reduceEqDiff, reduceCtorEq]; exact t0, by simp only [WS, List.getElem_cons_zero, List.getElem_cons_succ, Option.isNone_some, Option.isNone_none, List.getD_cons_zero, List.getD_cons_succ, I.at, atL, atO, atP, evp, evs, retV, ↓reduceIte, Nat.reduceEqDiff, reduceCtorEq]; exact t1, by simp only [WS, List.getElem_cons_zero, List.getElem_cons_succ, Option.isNone_some, Option.isNone_none, List.getD_cons_zero, List.getD_cons_succ, I.at, atL, atO, atP, evp, evs, retV, ↓reduceIte, Nat.reduceEqDiff, reduceCtorEq]; exact t6, by simp only [WS, List.getElem_cons_zero, List.getElem_cons_succ, Option.isNone_some, Option.isNone_none, List.getD_cons_zero, List.getD_cons_succ, I.at, atL, atO, atP, evp, evs, retV, ↓reduceIte, Nat.reduceEqDiff, reduceCtorEq]; exact t7, by simp only [WS, List.getElem_cons_zero, List.getElem_cons_succ, Option.isNone_some, Option.isNone_none, List.getD_cons_zero, List.getD_cons_succ, I.at, atL, atO, atP, evp, evs, retV, ↓reduceIte, Nat.reduceEqDiff, reduceCtorEq]; exact t8, 0, Rm, rfl, by omega, by rw [Nat.zero_mod], hm, hml, hqm, fun c i => by rw [if_neg (by omega)]⟩ ?_
    clear t0 t1 t6 t7 t8 hm
    rintro t w3 ⟨t0, t1, t6, t7, t8, o, R1, t9, ho, hom, hm, hl1, hq1, hco⟩
    by_cases hlt : o < 2 ^ k
    · have hle := mod0_lt (by omega) hom hmk hlt
      simp (maxSteps := 1000000) (disch := omega) only [WS, List.getElem_cons_zero, List.getElem_cons_succ, Option.isNone_some, Option.isNone_none, List.getD_cons_zero, List.getD_cons_succ, I.at, atL, atO, atP, evp, evs, retV, ↓reduceIte, Nat.reduceEqDiff, reduceCtorEq, AS, t0, t1, t6, t7, t8, t9]
      refine X_call0 ((afft_skew_spec w3 j (A + o) (by omega) (by omega)).mono ?_)
      rintro _ w4 ⟨rfl, hB4⟩
      have hm := hM.up _ _ _ hm hB4
      clear hB4
      simp (maxSteps := 1000000) (disch := omega) only [WS, List.getElem_cons_zero, List.getElem_cons_succ, Option.isNone_some, Option.isNone_none, List.getD_cons_zero, List.getD_cons_succ, I.at, atL, atO, atP, evp, evs, retV, ↓reduceIte, Nat.reduceEqDiff, reduceCtorEq, AS, t0, t1, t6, t7, t8, t9]
      refine loop_of (fun t w' => t 0 = rows ∧ t 1 = .int .i64 (A : Int) ∧ t 6 = .int .i64 ((2 ^ k : Nat) : Int) ∧ t 7 = .int .i64 (j : Int) ∧ t 8 = .int .i64 ((2 ^ j : Nat) : Int) ∧ t 9 = .int .i64 (o : Int) ∧ t 10 = .int .u16 ((wel ((A + o) >>> j)).v.toNat : Int) ∧ ∃ (i : Nat) (R' : List (List (El 16))), t 11 = .int .i64 (i : Int) ∧ o ≤ i ∧ i ≤ o + 2 ^ j ∧ M R' w' ∧ R'.length = 2 ^ k ∧ (∀ i, i < 2 ^ k → (R'.getD i []).length = q) ∧
          ∀ c x, colf R' c x = if x < i ∨ (o + 2 ^ j ≤ x ∧ x < i + 2 ^ j) then bfn j A (colf Rm c) x else colf Rm c x) (fun t _ => o + 2 ^ j - (toI (t 11)).toNat)
        ⟨by simp only [WS, List.getElem_cons_zero, List.getElem_cons_succ, Option.isNone_some, Option.isNone_none, List.getD_cons_zero, List.getD_cons_succ, I.at, atL, atO, atP, evp, evs, retV, ↓reduceIte, Nat.reduceEqDiff, reduceCtorEq]; exact t0, by simp only [WS, List.getElem_cons_zero, List.getElem_cons_succ, Option.isNone_some, Option.isNone_none, List.getD_cons_zero, List.getD_cons_succ, I.at, atL, atO, atP, evp, evs, retV, ↓reduceIte, Nat.reduceEqDiff, reduceCtorEq]; exact t1, by simp only [WS, List.getElem_cons_zero, List.getElem_cons_succ, Option.isNone_some, Option.isNone_none, List.getD_cons_zero, List.getD_cons_succ, I.at, atL, atO, atP, evp, evs, retV, ↓reduceIte, Nat.reduceEqDiff, reduceCtorEq]; exact t6, by simp only [WS, List.getElem_cons_zero, List.getElem_cons_succ, Option.isNone_some, Option.isNone_none, List.getD_cons_zero, List.getD_cons_succ, I.at, atL, atO, atP, evp, evs, retV, ↓reduceIte, Nat.reduceEqDiff, reduceCtorEq]; exact t7, by simp only [WS, List.getElem_cons_zero, List.getElem_cons_succ, Option.isNone_some, Option.isNone_none, List.getD_cons_zero, List.getD_cons_succ, I.at, atL, atO, atP, evp, evs, retV, ↓reduceIte, Nat.reduceEqDiff, reduceCtorEq]; exact t8, by simp only [WS, List.getElem_cons_zero, List.getElem_cons_succ, Option.isNone_some, Option.isNone_none, List.getD_cons_zero, List.getD_cons_succ, I.at, atL, atO, atP, evp, evs, retV, ↓reduceIte, Nat.reduceEqDiff, reduceCtorEq]; exact t9, rfl, o, R1, by simp only [WS, List.getElem_cons_zero, List.getElem_cons_succ, Option.isNone_some, Option.isNone_none, List.getD_cons_zero, List.getD_cons_succ, I.at, atL, atO, atP, evp, evs, retV, ↓reduceIte, Nat.reduceEqDiff, reduceCtorEq], Nat.le_refl _, by omega, hm, hl1, hq1, fun c x => by
          rw [hco c x]
          by_cases hx : x < o
          · rw [if_pos hx, if_pos (Or.inl hx)]
          · rw [if_neg hx, if_neg (by omega)]⟩ ?_
      clear t0 t1 t6 t7 t8 t9 hm hco hq1 hl1
      rintro t w5 ⟨t0, t1, t6, t7, t8, t9, t10, i, R2, t11, hi1, hi2, hm, hl2, hq2, hco⟩
      by_cases hil : i < o + 2 ^ j
      · have hih : i < hs.length := by omega
        have hih2 : i + 2 ^ j < hs.length := by omega
        simp (maxSteps := 1000000) (disch := omega) only [WS, List.getElem_cons_zero, List.getElem_cons_succ, Option.isNone_some, Option.isNone_none, List.getD_cons_zero, List.getD_cons_succ, I.at, atL, atO, atP, evp, evs, retV, ↓reduceIte, Nat.reduceEqDiff, reduceCtorEq, AS, t0, t1, t6, t7, t8, t9, t10, t11]
        refine WP_dops ?_
        have hmd := hM.up _ _ _ hm (bel_drew w5)
        have hsd := (hM.hd _ _ hmd).1
        simp (maxSteps := 1000000) (disch := omega) only [ES, List.mem_cons, List.not_mem_nil, implies_true, forall_const, WS, List.getElem_cons_zero, List.getElem_cons_succ, Option.isNone_some, Option.isNone_none, List.getD_cons_zero, List.getD_cons_succ, I.at, atL, atO, atP, evp, evs, retV, ↓reduceIte, Nat.reduceEqDiff, reduceCtorEq, AS, t0, t1, t6, t7, t8, t9, t10, t11, hsd.Eix hih, hsd.Eld hih, hsd.Eix hih2, hsd.Eld hih2]
        have W1 : ∀ b, Wr (fun a w => M ((R2.set i a).set (i + 2 ^ j) b) w) (Cell.v hs[i]) := fun b => by
          have := hM.wr (R2.set (i + 2 ^ j) b) i hih (by rw [List.length_set]; omega)
          refine this.iff fun a w => ?_
          rw [List.set_comm _ _ (show i ≠ i + 2 ^ j by omega)]
        have W2 : ∀ a, Wr (fun b w => M ((R2.set i a).set (i + 2 ^ j) b) w) (Cell.v hs[i + 2 ^ j]) := fun a => hM.wr (R2.set i a) (i + 2 ^ j) hih2 (by rw [List.length_set]; omega)
        have hself : M ((R2.set i (R2.getD i [])).set (i + 2 ^ j) (R2.getD (i + 2 ^ j) [])) w5.drew := by
          rw [set_getD R2 (by omega), set_getD R2 (by omega)]; exact hmd
        refine E_call0 ((afft_forward_spec (M := fun a b w => M ((R2.set i a).set (i + 2 ^ j) b) w) (wel ((A + o) >>> j)) _ _ (R2.getD i []) (R2.getD (i + 2 ^ j) []) w5.drew W1 W2 hself (by rw [hq2 i (by omega), hq2 (i + 2 ^ j) (by omega)]) (by rw [hq2 i (by omega)]; exact hq46)).mono ?_)
        rintro _ w6 ⟨rfl, x', y', hm6, lx', ly', hx', hy'⟩
        simp (maxSteps := 1000000) (disch := omega) only [ES, List.mem_cons, List.not_mem_nil, implies_true, forall_const, WS, List.getElem_cons_zero, List.getElem_cons_succ, Option.isNone_some, Option.isNone_none, List.getD_cons_zero, List.getD_cons_succ, I.at, atL, atO, atP, evp, evs, retV, ↓reduceIte, Nat.reduceEqDiff, reduceCtorEq, AS, t0, t1, t6, t7, t8, t9, t10, t11]
        have s1 : i < R2.length := by omega
        have s2 : i + 2 ^ j < (R2.set i x').length := by rw [List.length_set]; omega
        refine ⟨⟨i + 1, _, rfl, by omega, by omega, hm6, by simp [hl2], fun x hx => ?_, fun c x => ?_⟩, by omega⟩
        · rw [getD_set _ s2, getD_set _ s1]
          by_cases e1 : x = i + 2 ^ j
          · rw [if_pos e1, ly']; exact hq2 _ (by omega)
          · rw [if_neg e1]
            by_cases e2 : x = i
            · rw [if_pos e2, lx']; exact hq2 _ (by omega)
            · rw [if_neg e2]; exact hq2 x hx
        · have g1 : (co (R2.getD i [])).c c = colf Rm c i := by have := hco c i; rw [if_neg (by omega)] at this; exact this
          have g2 : (co (R2.getD (i + 2 ^ j) [])).c c = colf Rm c (i + 2 ^ j) := by have := hco c (i + 2 ^ j); rw [if_neg (by omega)] at this; exact this
          rw [colf_set _ s2, colf_set _ s1]
          by_cases e1 : x = i + 2 ^ j
          · subst e1
            rw [if_pos rfl, if_pos (Or.inr ⟨by omega, by omega⟩), bfn_piece hom _ (by omega) (by omega), if_neg (by omega), hy', g1, g2, Nat.add_sub_cancel]
          · rw [if_neg e1]
            by_cases e2 : x = i
            · subst e2
              rw [if_pos rfl, if_pos (Or.inl (by omega)), bfn_piece hom _ (by omega) (by omega), if_pos (by omega), hx', g1, g2]
            · rw [if_neg e2, hco c x]
              by_cases e3 : x < i ∨ (o + 2 ^ j ≤ x ∧ x < i + 2 ^ j)
              · rw [if_pos e3, if_pos (by omega)]
              · rw [if_neg e3, if_neg (by omega)]
      · obtain rfl : i = o + 2 ^ j := by omega
        simp (maxSteps := 1000000) (disch := omega) only [WS, List.getElem_cons_zero, List.getElem_cons_succ, Option.isNone_some, Option.isNone_none, List.getD_cons_zero, List.getD_cons_succ, I.at, atL, atO, atP, evp, evs, retV, ↓reduceIte, Nat.reduceEqDiff, reduceCtorEq, AS, t0, t1, t6, t7, t8, t9, t10, t11]
        refine ⟨⟨o + 2 * 2 ^ j, R2, rfl, by omega, by rw [Nat.add_mod, hom, Nat.zero_add, Nat.mod_self, Nat.zero_mod], hm, hl2, hq2, fun c x => ?_⟩, by omega⟩
        rw [hco c x]
        by_cases hx : x < o + 2 * 2 ^ j
        · rw [if_pos hx, if_pos (by omega)]
        · rw [if_neg hx, if_neg (by omega)]
    · obtain rfl : o = 2 ^ k := by omega
      have e2 : IntKind.i64.wrap (((2 ^ j : Nat) : Int).tdiv 2) = ((2 ^ j / 2 : Nat) : Int) := by rw [show (2 : Int) = ((2 : Nat) : Int) from rfl, tdiv_nat, wrap_64 _ (by omega)]
      have e1 : IntKind.i64.wrap ((j : Int) - 1) = (j : Int) - 1 := wrap_id (by omega) (by omega)
      simp (maxSteps := 1000000) (disch := omega) only [WS, List.getElem_cons_zero, List.getElem_cons_succ, Option.isNone_some, Option.isNone_none, List.getD_cons_zero, List.getD_cons_succ, I.at, atL, atO, atP, evp, evs, retV, ↓reduceIte, Nat.reduceEqDiff, reduceCtorEq, decide_eq_false, t0, t1, t6, t7, t8, t9, X_quo, e1, e2, show ((2 : Int) ≠ 0) = True from eq_true (by decide), toI_int]
      refine ⟨⟨j, R1, rfl, rfl, by omega, hm, hl1, hq1, fun c i hi => ?_⟩, by omega⟩
      rw [← hit c i hi]
      exact itF_loc (n := 2 ^ k) (Nat.mod_eq_zero_of_dvd (Nat.pow_dvd_pow 2 (show j ≤ k by omega))) (fun i hi => by rw [hco c i, if_pos hi]) i hi
end Go.Proofs.Ytpmfeaajpjjfiaa.Fw
