import Derived.Test.YtbaljbadlfopgaaProg
import Derived.Test.YtbaljbadlfopgaaFwTN
import Derived.Test.YtbaljbadlfopgaaSMndN
set_option linter.all false
set_option linter.unusedVariables false
set_option linter.unusedSimpArgs false
set_option maxRecDepth 100000
set_option maxHeartbeats 1000000
namespace Go.Proofs.Ytbaljbadlfopgaa.Fw
open Go Go.Fw Go.Proofs
attribute [local irreducible] stepI
def c_mend_refuses : C := .seq (.ops [⟨0, (some 6), none, .mov (.c (.slice none 0 0)), []⟩, ⟨1, (some 7), none, .mov (.c (.int .i64 0)), []⟩]) (.seq (.seq (.ops [⟨0, (some 12), none, .mov (.t 0), []⟩, ⟨1, (some 13), none, .bin .lss (.t 12) (.c (.int .i64 1)), []⟩, ⟨2, (some 14), none, .mov (.t 13), []⟩, ⟨3, (some 15), (some (14, false)), .mov (.t 0), []⟩, ⟨4, (some 16), (some (14, false)), .bin .gtr (.t 15) (.c (.int .i64 256)), []⟩, ⟨5, (some 17), none, .pick (.t 14) (.c (.bool true)) (.t 16), []⟩, ⟨6, (some 18), none, .mov (.t 17), []⟩, ⟨7, (some 19), (some (18, false)), .mov (.t 1), []⟩, ⟨8, (some 20), (some (18, false)), .len (.t 19), []⟩, ⟨9, (some 21), (some (18, false)), .bin .gtr (.t 20) (.c (.int .i64 256)), []⟩, ⟨10, (some 22), none, .pick (.t 18) (.c (.bool true)) (.t 21), []⟩]) (.ite (.t 22) (.seq (.ops [⟨0, (some 6), none, .mov (.c (.slice none 0 0)), []⟩, ⟨1, (some 7), none, .mov (.c (.int .i64 4)), []⟩]) .ret) .skip)) (.seq (.ops [⟨0, (some 8), none, .mov (.c (.int .i64 (-1))), []⟩]) (.seq (.ops [⟨0, (some 23), none, .mov (.t 1), []⟩, ⟨1, (some 24), none, .len (.t 23), []⟩, ⟨2, (some 25), none, .mks 5 1 [.int .u8 0] (.t 24) (.t 24), []⟩, ⟨3, (some 9), none, .mov (.t 25), []⟩]) (.seq (.seq (.ops [⟨0, (some 26), none, .mov (.t 1), []⟩, ⟨1, (some 27), none, .len (.t 26), []⟩, ⟨2, (some 28), none, .mov (.c (.int .i64 0)), []⟩]) (.block 0 (.loop (.seq (.ops [⟨0, (some 29), none, .bin .lss (.t 28) (.t 27), []⟩]) (.seq (.ite (.t 29) .skip (.exit 0)) (.seq (.block 1 (.seq (.ops [⟨0, (some 30), none, .mov (.t 28), []⟩, ⟨1, (some 31), none, .ixs 1 (.t 26) (.t 28), []⟩, ⟨2, (some 32), none, .ld (.t 31), []⟩, ⟨3, (some 10), none, .mov (.t 30), []⟩, ⟨4, (some 11), none, .mov (.t 32), []⟩]) (.seq (.seq (.ops [⟨0, (some 33), none, .mov (.t 11), []⟩, ⟨1, (some 34), none, .mov (.t 8), []⟩, ⟨2, (some 35), none, .bin .leq (.t 33) (.t 34), []⟩, ⟨3, (some 36), none, .mov (.t 35), []⟩, ⟨4, (some 37), (some (36, false)), .mov (.t 11), []⟩, ⟨5, (some 38), (some (36, false)), .bin .gtr (.t 37) (.c (.int .i64 255)), []⟩, ⟨6, (some 39), none, .pick (.t 36) (.c (.bool true)) (.t 38), []⟩]) (.ite (.t 39) (.seq (.ops [⟨0, (some 6), none, .mov (.c (.slice none 0 0)), []⟩, ⟨1, (some 7), none, .mov (.c (.int .i64 110)), []⟩]) .ret) .skip)) (.seq (.ops [⟨0, (some 40), none, .mov (.t 11), []⟩, ⟨1, (some 8), none, .mov (.t 40), []⟩]) (.ops [⟨0, (some 41), none, .mov (.t 9), []⟩, ⟨1, (some 42), none, .mov (.t 10), []⟩, ⟨2, (some 43), none, .mov (.t 11), []⟩, ⟨3, (some 44), none, .cnv .u8 (.t 43), []⟩, ⟨4, (some 45), none, .ixs 1 (.t 41) (.t 42), []⟩, ⟨5, none, none, .st (.t 45) (.t 44), []⟩]))))) (.ops [⟨0, (some 46), none, .bin .add (.t 28) (.c (.int .i64 1)), []⟩, ⟨1, (some 28), none, .mov (.t 46), []⟩]))))))) (.seq (.seq (.ops [⟨0, (some 47), none, .mov (.t 2), []⟩, ⟨1, (some 48), none, .len (.t 47), []⟩, ⟨2, (some 49), none, .mov (.t 1), []⟩, ⟨3, (some 50), none, .len (.t 49), []⟩, ⟨4, (some 51), none, .bin .neq (.t 48) (.t 50), []⟩]) (.ite (.t 51) (.seq (.ops [⟨0, (some 6), none, .mov (.c (.slice none 0 0)), []⟩, ⟨1, (some 7), none, .mov (.c (.int .i64 6)), []⟩]) .ret) .skip)) (.seq (.seq (.ops [⟨0, (some 52), none, .mov (.t 1), []⟩, ⟨1, (some 53), none, .len (.t 52), []⟩, ⟨2, (some 54), none, .mov (.t 0), []⟩, ⟨3, (some 55), none, .bin .lss (.t 53) (.t 54), []⟩]) (.ite (.t 55) (.seq (.ops [⟨0, (some 6), none, .mov (.c (.slice none 0 0)), []⟩, ⟨1, (some 7), none, .mov (.c (.int .i64 9)), []⟩]) .ret) .skip)) (.seq (.ops [⟨0, (some 56), none, .mov (.t 9), []⟩, ⟨1, (some 6), none, .mov (.t 56), []⟩, ⟨2, (some 7), none, .mov (.c (.int .i64 0)), []⟩]) .ret)))))))
attribute [irreducible] c_mend_refuses
theorem run_mend_refuses {args : List Value} {w : World} {K : Value → World → Prop} (hn : args.length ≤ 57) (h : WP Try.prog c_mend_refuses (endQ [.t 6, .t 7] K) (initT args) w) : CallV Try.prog 54 args w K :=
  call_of follows Try.func54 (by kernel_rfl) (by kernel_rfl) hn h
end Go.Proofs.Ytbaljbadlfopgaa.Fw
namespace Go.Proofs.Ytbaljbadlfopgaa.Fw
open Go Go.Fw
def en8 (n : Nat) : El 8 := ⟨BitVec.ofNat 8 n⟩
theorem en8_v {n : Nat} (h : n < 256) : (en8 n).v.toNat = n := by
  show (BitVec.ofNat 8 n).toNat = n
  rw [BitVec.toNat_ofNat]; exact Nat.mod_eq_of_lt h
theorem en8_c {n : Nat} (h : n < 256) : Value.int .u8 (n : Int) = Cell.v (en8 n) := by rw [cell_e8, en8_v h]
/-- The first n points ascend, from 0 to 255. -/
def asc (P : List Int) (n : Nat) : Prop := ∀ i (hi : i < P.length), i < n → 0 ≤ P[i] ∧ P[i] ≤ 255 ∧ ∀ j (hj : j < P.length), j < i → P[j] < P[i]
theorem mend_refuses_spec (w : World) (k : Int) (s1 s2 : Value) (P : List Int) (Y : List (El 8)) (h1 : Sl w s1 P) (h2 : Sl w s2 Y) (hP : P.length ≤ 70368744175616) (hY : Y.length ≤ 70368744175616) :
    CallV Try.prog 54 [.int .i64 k, s1, s2] w fun v w' => RowKit.Below w.heap.size w w' ∧
      (((k < 1 ∨ k > 256 ∨ P.length > 256) ∧ v = .tuple #[.slice none 0 0, .int .i64 4]) ∨
       (¬ (k < 1 ∨ k > 256 ∨ P.length > 256) ∧ ¬ asc P P.length ∧ v = .tuple #[.slice none 0 0, .int .i64 110]) ∨
       (¬ (k < 1 ∨ k > 256 ∨ P.length > 256) ∧ asc P P.length ∧ Y.length ≠ P.length ∧ v = .tuple #[.slice none 0 0, .int .i64 6]) ∨
       (¬ (k < 1 ∨ k > 256 ∨ P.length > 256) ∧ asc P P.length ∧ Y.length = P.length ∧ (P.length : Int) < k ∧ v = .tuple #[.slice none 0 0, .int .i64 9]) ∨
       (¬ (k < 1 ∨ k > 256 ∨ P.length > 256) ∧ asc P P.length ∧ Y.length = P.length ∧ ¬ (P.length : Int) < k ∧ ∃ (s : Value) (xs : List (El 8)), v = .tuple #[s, .int .i64 0] ∧ Ow w.heap.size w' s xs ∧ xs.length = P.length ∧ ∀ i (hi : i < xs.length) (hi' : i < P.length), ((xs[i].v.toNat : Nat) : Int) = P[i])) := by
  refine run_mend_refuses (by simp) ?_
  simp only [c_mend_refuses, WS, List.getElem_cons_zero, List.getElem_cons_succ, Option.isNone_some, Option.isNone_none, List.getD_cons_zero, List.getD_cons_succ, I.at, atL, atO, atP, evp, evs, retV, ↓reduceIte, Nat.reduceEqDiff, reduceCtorEq]
  by_cases g1 : k < 1
  · simp (maxSteps := 1000000) (disch := omega) only [WS, List.getElem_cons_zero, List.getElem_cons_succ, Option.isNone_some, Option.isNone_none, List.getD_cons_zero, List.getD_cons_succ, I.at, atL, atO, atP, evp, evs, retV, ↓reduceIte, Nat.reduceEqDiff, reduceCtorEq, AS]
    exact ⟨RowKit.Below.refl _ _, Or.inl (Or.inl g1)⟩
  by_cases g2 : k > 256
  · simp (maxSteps := 1000000) (disch := omega) only [WS, List.getElem_cons_zero, List.getElem_cons_succ, Option.isNone_some, Option.isNone_none, List.getD_cons_zero, List.getD_cons_succ, I.at, atL, atO, atP, evp, evs, retV, ↓reduceIte, Nat.reduceEqDiff, reduceCtorEq, AS]
    exact ⟨RowKit.Below.refl _ _, Or.inl (Or.inr (Or.inl g2))⟩
  by_cases g3 : P.length > 256
  · simp (maxSteps := 1000000) (disch := omega) only [WS, List.getElem_cons_zero, List.getElem_cons_succ, Option.isNone_some, Option.isNone_none, List.getD_cons_zero, List.getD_cons_succ, I.at, atL, atO, atP, evp, evs, retV, ↓reduceIte, Nat.reduceEqDiff, reduceCtorEq, AS, h1.Xlen]
    exact ⟨RowKit.Below.refl _ _, Or.inl (Or.inr (Or.inr g3))⟩
  have hno : ¬ (k < 1 ∨ k > 256 ∨ P.length > 256) := by omega
  simp (maxSteps := 1000000) (disch := omega) only [WS, List.getElem_cons_zero, List.getElem_cons_succ, Option.isNone_some, Option.isNone_none, List.getD_cons_zero, List.getD_cons_succ, I.at, atL, atO, atP, evp, evs, retV, ↓reduceIte, Nat.reduceEqDiff, reduceCtorEq, AS, h1.Xlen]
  refine X_mks (x := (0 : El 8)) (by simp only [maxBytes]; omega) (by omega) fun s9 w1 o9 hB => ?_
  simp (maxSteps := 1000000) (disch := omega) only [WS, List.getElem_cons_zero, List.getElem_cons_succ, Option.isNone_some, Option.isNone_none, List.getD_cons_zero, List.getD_cons_succ, I.at, atL, atO, atP, evp, evs, retV, ↓reduceIte, Nat.reduceEqDiff, reduceCtorEq, AS, (h1.up hB).Xlen]
  refine loop_of (fun t w' => t 0 = .int .i64 k ∧ t 1 = s1 ∧ t 2 = s2 ∧ t 9 = s9 ∧ t 26 = s1 ∧ t 27 = .int .i64 (P.length : Int) ∧ RowKit.Below w.heap.size w w' ∧ ∃ (i : Nat) (last : Int) (L : List (El 8)), t 28 = .int .i64 (i : Int) ∧ i ≤ P.length ∧ t 8 = .int .i64 last ∧ -1 ≤ last ∧ (∀ j (hj : j < P.length), j < i → P[j] ≤ last) ∧ (∀ h : 0 < i, ∀ h' : i - 1 < P.length, last = P[i - 1]) ∧ (i = 0 → last = -1) ∧ asc P i ∧ Ow w.heap.size w' s9 L ∧ L.length = P.length ∧ ∀ j (hj : j < L.length) (hj' : j < P.length), j < i → ((L[j].v.toNat : Nat) : Int) = P[j]) (fun t _ => P.length - (toI (t 28)).toNat)
    ⟨by simp only [WS, List.getElem_cons_zero, List.getElem_cons_succ, Option.isNone_some, Option.isNone_none, List.getD_cons_zero, List.getD_cons_succ, I.at, atL, atO, atP, evp, evs, retV, ↓reduceIte, Nat.reduceEqDiff, reduceCtorEq], by simp only [WS, List.getElem_cons_zero, List.getElem_cons_succ, Option.isNone_some, Option.isNone_none, List.getD_cons_zero, List.getD_cons_succ, I.at, atL, atO, atP, evp, evs, retV, ↓reduceIte, Nat.reduceEqDiff, reduceCtorEq], by simp only [WS, List.getElem_cons_zero, List.getElem_cons_succ, Option.isNone_some, Option.isNone_none, List.getD_cons_zero, List.getD_cons_succ, I.at, atL, atO, atP, evp, evs, retV, ↓reduceIte, Nat.reduceEqDiff, reduceCtorEq], by simp only [WS, List.getElem_cons_zero, List.getElem_cons_succ, Option.isNone_some, Option.isNone_none, List.getD_cons_zero, List.getD_cons_succ, I.at, atL, atO, atP, evp, evs, retV, ↓reduceIte, Nat.reduceEqDiff, reduceCtorEq], by simp only [WS, List.getElem_cons_zero, List.getElem_cons_succ, Option.isNone_some, Option.isNone_none, List.getD_cons_zero, List.getD_cons_succ, I.at, atL, atO, atP, evp, evs, retV, ↓reduceIte, Nat.reduceEqDiff, reduceCtorEq], by simp only [WS, List.getElem_cons_zero, List.getElem_cons_succ, Option.isNone_some, Option.isNone_none, List.getD_cons_zero, List.getD_cons_succ, I.at, atL, atO, atP, evp, evs, retV, ↓reduceIte, Nat.reduceEqDiff, reduceCtorEq], hB, 0, -1, _, by simp only [WS, List.getElem_cons_zero, List.getElem_cons_succ, Option.isNone_some, Option.isNone_none, List.getD_cons_zero, List.getD_cons_succ, I.at, atL, atO, atP, evp, evs, retV, ↓reduceIte, Nat.reduceEqDiff, reduceCtorEq]; rfl, by omega, by simp only [WS, List.getElem_cons_zero, List.getElem_cons_succ, Option.isNone_some, Option.isNone_none, List.getD_cons_zero, List.getD_cons_succ, I.at, atL, atO, atP, evp, evs, retV, ↓reduceIte, Nat.reduceEqDiff, reduceCtorEq], by omega, fun j hj h => by omega, fun h => by omega, fun _ => rfl, fun i hi h => by omega, o9, List.length_replicate .., fun j hj hj' h => by omega⟩ ?_
  clear hB o9
  rintro t w2 ⟨t0, t1, t2, t9, t26, t27, B, i, last, L, t28, hi, t8, hl1, hl2, hl3, hl4, hasc, oL, hLl, hLv⟩
  by_cases hil : i < P.length
  · have hs := h1.up B
    by_cases c1 : P[i] ≤ last
    · simp (maxSteps := 1000000) (disch := omega) only [WS, List.getElem_cons_zero, List.getElem_cons_succ, Option.isNone_some, Option.isNone_none, List.getD_cons_zero, List.getD_cons_succ, I.at, atL, atO, atP, evp, evs, retV, ↓reduceIte, Nat.reduceEqDiff, reduceCtorEq, AS, t0, t1, t2, t9, t26, t27, t28, t8, hs.Xix hil, hs.Xld hil, cell_int]
      refine ⟨B, Or.inr (Or.inl ⟨hno, fun h => ?_⟩)⟩
      obtain ⟨a1, -, a3⟩ := h i hil hil
      by_cases h0 : i = 0
      · have := hl4 h0; omega
      · have := hl3 (by omega) (by omega)
        have := a3 (i - 1) (by omega) (by omega)
        omega
    by_cases c2 : P[i] > 255
    · simp (maxSteps := 1000000) (disch := omega) only [WS, List.getElem_cons_zero, List.getElem_cons_succ, Option.isNone_some, Option.isNone_none, List.getD_cons_zero, List.getD_cons_succ, I.at, atL, atO, atP, evp, evs, retV, ↓reduceIte, Nat.reduceEqDiff, reduceCtorEq, AS, t0, t1, t2, t9, t26, t27, t28, t8, hs.Xix hil, hs.Xld hil, cell_int]
      refine ⟨B, Or.inr (Or.inl ⟨hno, fun h => ?_⟩)⟩
      have := (h i hil hil).2.1
      omega
    obtain ⟨n, hn⟩ : ∃ n : Nat, P[i] = (n : Int) := ⟨P[i].toNat, by omega⟩
    have iL : i < L.length := by omega
    have u1 : IntKind.u8.wrap ((n : Nat) : Int) = (n : Int) := wrap_u8 _ (by omega)
    rw [hn] at c1 c2
    simp (maxSteps := 1000000) (disch := omega) only [WS, List.getElem_cons_zero, List.getElem_cons_succ, Option.isNone_some, Option.isNone_none, List.getD_cons_zero, List.getD_cons_succ, I.at, atL, atO, atP, evp, evs, retV, ↓reduceIte, Nat.reduceEqDiff, reduceCtorEq, AS, t0, t1, t2, t9, t26, t27, t28, t8, hs.Xix hil, hs.Xld hil, cell_int, hn, u1, oL.sl.Xix iL]
    rw [en8_c (show n < 256 by omega)]
    refine Ow.Xst oL iL (en8 n) fun w3 oL2 hg => ?_
    have B := B.grown hg B.size fun b hb => (oL.blk b hb).1
    simp (maxSteps := 1000000) (disch := omega) only [WS, List.getElem_cons_zero, List.getElem_cons_succ, Option.isNone_some, Option.isNone_none, List.getD_cons_zero, List.getD_cons_succ, I.at, atL, atO, atP, evp, evs, retV, ↓reduceIte, Nat.reduceEqDiff, reduceCtorEq, AS, t0, t1, t2, t9, t26, t27, t28]
    refine ⟨⟨B, i + 1, (n : Int), _, rfl, by omega, rfl, by omega, fun j hj h => ?_, fun _ h' => by simp only [Nat.add_sub_cancel]; exact hn.symm, fun h => by omega, fun x hx h => ?_, oL2, by rw [List.length_set]; exact hLl, fun j hj hj' h => ?_⟩, by omega⟩
    · by_cases e : j = i
      · subst e; rw [hn]; omega
      · have := hl2 j hj (by omega); omega
    · by_cases e : x = i
      · subst e
        refine ⟨by rw [hn]; omega, by rw [hn]; omega, fun j hj h2 => ?_⟩
        have := hl2 j hj h2
        rw [hn]; omega
      · exact hasc x hx (by omega)
    · rw [List.length_set] at hj
      rw [List.getElem_set]
      by_cases e : i = j
      · subst e; rw [if_pos rfl, en8_v (by omega), hn]
      · rw [if_neg e]; exact hLv j hj hj' (by omega)
  have hie : i = P.length := by omega
  rw [hie] at hasc hLv
  have hs1 := h1.up B
  have hs2 := h2.up B
  by_cases c1 : Y.length = P.length
  rotate_left
  · have c1' : (Y.length : Int) ≠ (P.length : Int) := fun e => c1 (by omega)
    simp (maxSteps := 1000000) (disch := omega) only [WS, List.getElem_cons_zero, List.getElem_cons_succ, Option.isNone_some, Option.isNone_none, List.getD_cons_zero, List.getD_cons_succ, I.at, atL, atO, atP, evp, evs, retV, ↓reduceIte, Nat.reduceEqDiff, reduceCtorEq, AS, t0, t1, t2, t9, t26, t27, t28, hs1.Xlen, hs2.Xlen]
    exact ⟨B, Or.inr (Or.inr (Or.inl ⟨hno, hasc, c1⟩))⟩
  by_cases c2 : (P.length : Int) < k
  · simp (maxSteps := 1000000) (disch := omega) only [WS, List.getElem_cons_zero, List.getElem_cons_succ, Option.isNone_some, Option.isNone_none, List.getD_cons_zero, List.getD_cons_succ, I.at, atL, atO, atP, evp, evs, retV, ↓reduceIte, Nat.reduceEqDiff, reduceCtorEq, AS, t0, t1, t2, t9, t26, t27, t28, hs1.Xlen, hs2.Xlen, c1, ne_eq, not_true_eq_false, decide_false]
    exact ⟨B, Or.inr (Or.inr (Or.inr (Or.inl ⟨hno, hasc, c2⟩)))⟩
  simp (maxSteps := 1000000) (disch := omega) only [WS, List.getElem_cons_zero, List.getElem_cons_succ, Option.isNone_some, Option.isNone_none, List.getD_cons_zero, List.getD_cons_succ, I.at, atL, atO, atP, evp, evs, retV, ↓reduceIte, Nat.reduceEqDiff, reduceCtorEq, AS, t0, t1, t2, t9, t26, t27, t28, hs1.Xlen, hs2.Xlen, c1, ne_eq, not_true_eq_false, decide_false]
  exact ⟨B, Or.inr (Or.inr (Or.inr (Or.inr ⟨hno, hasc, c2, s9, L, rfl, oL, hLl, fun i hi hi' => hLv i hi hi' hi'⟩)))⟩
end Go.Proofs.Ytbaljbadlfopgaa.Fw
