import Derived.Test.YtpmfeaajpjjfiaaProg
import Derived.Test.YtpmfeaajpjjfiaaFwTA
import Derived.Test.YtpmfeaajpjjfiaaSS14iA
import Derived.Test.YtpmfeaajpjjfiaaGfLA
set_option linter.all false
set_option linter.unusedVariables false
set_option linter.unusedSimpArgs false
set_option maxRecDepth 100000
set_option maxHeartbeats 1000000
namespace Go.Proofs.Ytpmfeaajpjjfiaa.Fw
open Go Go.Fw Go.Proofs
attribute [local irreducible] stepI
def c_afft_InverseRows : C := .seq (.ops [⟨0, (some 4), none, .mov (.c (.int .i64 0)), []⟩]) (.seq (.seq (.ops [⟨0, (some 12), none, .mov (.t 0), []⟩, ⟨1, (some 13), none, .mov (.t 1), []⟩, ⟨2, (some 14), none, .call (.c (.func (.func 41) #[] #[])) [.t 12, .t 13], []⟩, ⟨3, (some 5), none, .mov (.t 14), []⟩]) (.seq (.ops [⟨0, (some 15), none, .mov (.t 5), []⟩, ⟨1, (some 16), none, .bin .neq (.t 15) (.c (.int .i64 0)), []⟩]) (.ite (.t 16) (.seq (.ops [⟨0, (some 17), none, .mov (.t 5), []⟩, ⟨1, (some 4), none, .mov (.t 17), []⟩]) .ret) .skip))) (.seq (.ops [⟨0, (some 18), none, .mov (.t 0), []⟩, ⟨1, (some 19), none, .len (.t 18), []⟩, ⟨2, (some 6), none, .mov (.t 19), []⟩]) (.seq (.seq (.ops [⟨0, (some 7), none, .mov (.c (.int .i64 0)), []⟩, ⟨1, (some 8), none, .mov (.c (.int .i64 1)), []⟩]) (.block 0 (.loop (.seq (.seq (.ops [⟨0, (some 20), none, .mov (.t 8), []⟩, ⟨1, (some 21), none, .mov (.t 6), []⟩, ⟨2, (some 22), none, .bin .lss (.t 20) (.t 21), []⟩]) (.ite (.t 22) .skip (.exit 0))) (.seq (.block 1 (.seq (.ops [⟨0, (some 9), none, .mov (.c (.int .i64 0)), []⟩]) (.block 2 (.loop (.seq (.seq (.ops [⟨0, (some 27), none, .mov (.t 9), []⟩, ⟨1, (some 28), none, .mov (.t 6), []⟩, ⟨2, (some 29), none, .bin .lss (.t 27) (.t 28), []⟩]) (.ite (.t 29) .skip (.exit 2))) (.seq (.block 3 (.seq (.ops [⟨0, (some 34), none, .mov (.t 7), []⟩, ⟨1, (some 35), none, .mov (.t 1), []⟩, ⟨2, (some 36), none, .mov (.t 9), []⟩, ⟨3, (some 37), none, .bin .add (.t 35) (.t 36), []⟩, ⟨4, (some 38), none, .call (.c (.func (.func 37) #[] #[])) [.t 34, .t 37], []⟩, ⟨5, (some 10), none, .mov (.t 38), []⟩]) (.seq (.ops [⟨0, (some 39), none, .mov (.t 9), []⟩, ⟨1, (some 11), none, .mov (.t 39), []⟩]) (.block 4 (.loop (.seq (.seq (.ops [⟨0, (some 40), none, .mov (.t 11), []⟩, ⟨1, (some 41), none, .mov (.t 9), []⟩, ⟨2, (some 42), none, .mov (.t 8), []⟩, ⟨3, (some 43), none, .bin .add (.t 41) (.t 42), []⟩, ⟨4, (some 44), none, .bin .lss (.t 40) (.t 43), []⟩]) (.ite (.t 44) .skip (.exit 4))) (.seq (.block 5 (.dops [⟨0, (some 47), none, .mov (.t 10), []⟩, ⟨1, (some 48), none, .mov (.t 0), []⟩, ⟨2, (some 49), none, .mov (.t 11), []⟩, ⟨3, (some 50), none, .ixs 1 (.t 48) (.t 49), []⟩, ⟨4, (some 51), none, .ld (.t 50), []⟩, ⟨5, (some 52), none, .mov (.t 0), []⟩, ⟨6, (some 53), none, .mov (.t 11), []⟩, ⟨7, (some 54), none, .mov (.t 8), []⟩, ⟨8, (some 55), none, .bin .add (.t 53) (.t 54), []⟩, ⟨9, (some 56), none, .ixs 1 (.t 52) (.t 55), []⟩, ⟨10, (some 57), none, .ld (.t 56), []⟩, ⟨11, (some 58), none, .call (.c (.func (.func 36) #[] #[])) [.t 47, .t 51, .t 57], []⟩])) (.ops [⟨0, (some 45), none, .mov (.t 11), []⟩, ⟨1, (some 46), none, .bin .add (.t 45) (.c (.int .i64 1)), []⟩, ⟨2, (some 11), none, .mov (.t 46), []⟩])))))))) (.ops [⟨0, (some 30), none, .mov (.t 9), []⟩, ⟨1, (some 31), none, .mov (.t 8), []⟩, ⟨2, (some 32), none, .bin .mul (.c (.int .i64 2)) (.t 31), []⟩, ⟨3, (some 33), none, .bin .add (.t 30) (.t 32), []⟩, ⟨4, (some 9), none, .mov (.t 33), []⟩]))))))) (.ops [⟨0, (some 23), none, .mov (.t 7), []⟩, ⟨1, (some 24), none, .bin .add (.t 23) (.c (.int .i64 1)), []⟩, ⟨2, (some 25), none, .mov (.t 8), []⟩, ⟨3, (some 26), none, .bin .mul (.c (.int .i64 2)) (.t 25), []⟩, ⟨4, (some 7), none, .mov (.t 24), []⟩, ⟨5, (some 8), none, .mov (.t 26), []⟩])))))) (.seq (.ops [⟨0, (some 4), none, .mov (.c (.int .i64 0)), []⟩]) .ret))))
attribute [irreducible] c_afft_InverseRows
theorem run_afft_InverseRows {args : List Value} {w : World} {K : Value → World → Prop} (hn : args.length ≤ 59) (h : WP Try.prog c_afft_InverseRows (endQ [.t 4] K) (initT args) w) : CallV Try.prog 25 args w K :=
  call_of follows Try.func25 (by kernel_rfl) (by kernel_rfl) hn h
end Go.Proofs.Ytpmfeaajpjjfiaa.Fw
namespace Go.Proofs.Ytpmfeaajpjjfiaa.Fw
open Go Go.Fw
theorem afft_InverseRows_spec {M : List (List (El 16)) → World → Prop} (w : World) (rows : Value) (hs : List Hd) (R : List (List (El 16))) (a : Int) (hM : Rws M rows hs) (hm : M R w) (hb : hs.length ≤ 70368744175616) (hbr : ∀ i, i < hs.length → (R.getD i []).length ≤ 70368744175616) :
    CallV Try.prog 25 [rows, .int .i64 a] w fun v w' => (∃ k q, k ≤ 16 ∧ hs.length = 2 ^ k ∧ isC a (2 ^ k) (2 ^ k) = true ∧ (∀ i, i < 2 ^ k → (R.getD i []).length = q) ∧ v = .int .i64 0 ∧ ∃ R', M R' w' ∧ R'.length = R.length ∧ (∀ i, i < 2 ^ k → (R'.getD i []).length = q) ∧ ∀ i c, i < 2 ^ k → colf R' c i = itI a.toNat k (colf R c) i) ∨
      (w' = w ∧ ((isP (hs.length : Int) = false ∧ v = .int .i64 130) ∨ (isP (hs.length : Int) = true ∧ ¬ (∃ q, ∀ i, i < hs.length → (R.getD i []).length = q) ∧ v = .int .i64 6) ∨ (isP (hs.length : Int) = true ∧ (∃ q, ∀ i, i < hs.length → (R.getD i []).length = q) ∧ isC a hs.length hs.length = false ∧ v = .int .i64 140))) := by
  refine run_afft_InverseRows (by simp) ?_
  obtain ⟨hsl, hRl⟩ := hM.hd R w hm
  have hlen := fun i (hi : i < hs.length) => rws_len hM hm hi
  simp only [c_afft_InverseRows, WS, List.getElem_cons_zero, List.getElem_cons_succ, Option.isNone_some, Option.isNone_none, List.getD_cons_zero, List.getD_cons_succ, I.at, atL, atO, atP, evp, evs, retV, ↓reduceIte, Nat.reduceEqDiff, reduceCtorEq]
  refine X_call0 ((afft_refuses_spec w rows hs a hsl hb).mono ?_)
  rintro _ w' ⟨rfl, ⟨hp, rfl⟩ | ⟨hp, hn, rfl⟩ | ⟨hp, hn, hc, rfl⟩ | ⟨hp, hn, hc, rfl⟩⟩
  · simp (maxSteps := 1000000) (disch := omega) only [WS, List.getElem_cons_zero, List.getElem_cons_succ, Option.isNone_some, Option.isNone_none, List.getD_cons_zero, List.getD_cons_succ, I.at, atL, atO, atP, evp, evs, retV, ↓reduceIte, Nat.reduceEqDiff, reduceCtorEq, AS]
    exact Or.inr (Or.inl hp)
  · have h0 : 0 < hs.length := by obtain ⟨k, hk, hlk⟩ := (isP_iff _).1 hp; have := Nat.two_pow_pos k; omega
    rw [all_n hlen h0] at hn
    simp (maxSteps := 1000000) (disch := omega) only [WS, List.getElem_cons_zero, List.getElem_cons_succ, Option.isNone_some, Option.isNone_none, List.getD_cons_zero, List.getD_cons_succ, I.at, atL, atO, atP, evp, evs, retV, ↓reduceIte, Nat.reduceEqDiff, reduceCtorEq, AS]
    exact Or.inr (Or.inr (Or.inl ⟨hp, hn⟩))
  · have h0 : 0 < hs.length := by obtain ⟨k, hk, hlk⟩ := (isP_iff _).1 hp; have := Nat.two_pow_pos k; omega
    rw [all_n hlen h0] at hn
    simp (maxSteps := 1000000) (disch := omega) only [WS, List.getElem_cons_zero, List.getElem_cons_succ, Option.isNone_some, Option.isNone_none, List.getD_cons_zero, List.getD_cons_succ, I.at, atL, atO, atP, evp, evs, retV, ↓reduceIte, Nat.reduceEqDiff, reduceCtorEq, AS]
    exact Or.inr (Or.inr (Or.inr ⟨hp, hn, hc⟩))
  obtain ⟨k, hk, hlk⟩ := (isP_iff _).1 hp
  have hp0 := Nat.two_pow_pos k
  have hp16 := pow_le16 hk
  have hlk : hs.length = 2 ^ k := by omega
  rw [all_n hlen (by omega)] at hn
  obtain ⟨q, hq⟩ := hn
  have hq46 : q ≤ 70368744175616 := by rw [← hq 0 (by omega)]; exact hbr 0 (by omega)
  rw [hlk] at hc hq hRl
  have hc2 := hc
  unfold isC at hc2
  obtain ⟨c1, c2, c3, c4⟩ := of_decide_eq_true hc2
  obtain ⟨A, rfl⟩ : ∃ A : Nat, a = (A : Int) := ⟨a.toNat, by omega⟩
  rw [Int.toNat_natCast] at c4
  rw [Int.toNat_natCast]
  simp (maxSteps := 1000000) (disch := omega) only [WS, List.getElem_cons_zero, List.getElem_cons_succ, Option.isNone_some, Option.isNone_none, List.getD_cons_zero, List.getD_cons_succ, I.at, atL, atO, atP, evp, evs, retV, ↓reduceIte, Nat.reduceEqDiff, reduceCtorEq, AS, hsl.Xlen, hlk]
  refine loop_of (fun t w' => t 0 = rows ∧ t 1 = .int .i64 (A : Int) ∧ t 6 = .int .i64 ((2 ^ k : Nat) : Int) ∧ ∃ (j : Nat) (R' : List (List (El 16))), t 7 = .int .i64 (j : Int) ∧ t 8 = .int .i64 ((2 ^ j : Nat) : Int) ∧ j ≤ k ∧ M R' w' ∧ R'.length = 2 ^ k ∧ (∀ i, i < 2 ^ k → (R'.getD i []).length = q) ∧
      ∀ c i, i < 2 ^ k → colf R' c i = itI A j (colf R c) i) (fun t _ => 2 ^ k - (toI (t 8)).toNat) ⟨by simp only [WS, List.getElem_cons_zero, List.getElem_cons_succ, Option.isNone_some, Option.isNone_none, List.getD_cons_zero, List.getD_cons_succ, I.at, atL, atO, atP, evp, evs, retV, ↓reduceIte, Nat.reduceEqDiff, reduceCtorEq], by simp only [WS, List.getElem_cons_zero, List.getElem_cons_succ, Option.isNone_some, Option.isNone_none, List.getD_cons_zero, List.getD_cons_succ, I.at, atL, atO, atP, evp, evs, retV, ↓reduceIte, Nat.reduceEqDiff, reduceCtorEq], by simp only [WS, List.getElem_cons_zero, List.getElem_cons_succ, Option.isNone_some, Option.isNone_none, List.getD_cons_zero, List.getD_cons_succ, I.at, atL, atO, atP, evp, evs, retV, ↓reduceIte, Nat.reduceEqDiff, reduceCtorEq], 0, R, by simp only [WS, List.getElem_cons_zero, List.getElem_cons_succ, Option.isNone_some, Option.isNone_none, List.getD_cons_zero, List.getD_cons_succ, I.at, atL, atO, atP, evp, evs, retV, ↓reduceIte, Nat.reduceEqDiff, reduceCtorEq]; rfl, by simp only [WS, List.getElem_cons_zero, List.getElem_cons_succ, Option.isNone_some, Option.isNone_none, List.getD_cons_zero, List.getD_cons_succ, I.at, atL, atO, atP, evp, evs, retV, ↓reduceIte, Nat.reduceEqDiff, reduceCtorEq]; rfl, by omega, hm, hRl, hq, fun c i _ => rfl⟩ ?_
  clear hm hsl
  rintro t w2 ⟨t0, t1, t6, j, Rm, t7, t8, hj, hm, hml, hqm, hit⟩
  by_cases hjk' : j = k
  · subst hjk'
    simp (maxSteps := 1000000) (disch := omega) only [WS, List.getElem_cons_zero, List.getElem_cons_succ, Option.isNone_some, Option.isNone_none, List.getD_cons_zero, List.getD_cons_succ, I.at, atL, atO, atP, evp, evs, retV, ↓reduceIte, Nat.reduceEqDiff, reduceCtorEq, AS, t0, t1, t6, t7, t8]
    exact Or.inl ⟨j, q, hk, rfl, hc, hq, Rm, hm, by omega, hqm, fun i c hi => hit c i hi⟩
  · have hj0 := Nat.two_pow_pos j
    have hjk : 2 ^ j < 2 ^ k := Nat.pow_lt_pow_right (by omega) (by omega)
    have hmk := pow_mod_half (show j < k by omega)
    simp (maxSteps := 1000000) (disch := omega) only [WS, List.getElem_cons_zero, List.getElem_cons_succ, Option.isNone_some, Option.isNone_none, List.getD_cons_zero, List.getD_cons_succ, I.at, atL, atO, atP, evp, evs, retV, ↓reduceIte, Nat.reduceEqDiff, reduceCtorEq, AS, t0, t1, t6, t7, t8]
    refine loop_of (fun t w' => t 0 = rows ∧ t 1 = .int .i64 (A : Int) ∧ t 6 = .int .i64 ((2 ^ k : Nat) : Int) ∧ t 7 = .int .i64 (j : Int) ∧ t 8 = .int .i64 ((2 ^ j : Nat) : Int) ∧ ∃ (o : Nat) (R' : List (List (El 16))), t 9 = .int .i64 (o : Int) ∧ o ≤ 2 ^ k ∧ o % (2 * 2 ^ j) = 0 ∧ M R' w' ∧ R'.length = 2 ^ k ∧ (∀ i, i < 2 ^ k → (R'.getD i []).length = q) ∧
        ∀ c i, colf R' c i = if i < o then bin' j A (colf Rm c) i else colf Rm c i) (fun t _ => 2 ^ k - (toI (t 9)).toNat) ⟨by simp only [WS, List.getElem_cons_zero, List.getElem_cons_succ, Option.isNone_some, Option.isNone_none, List.getD_cons_zero, List.getD_cons_succ, I.at, atL, atO, atP, evp, evs, retV, ↓reduceIte, Nat.reduceEqDiff, reduceCtorEq]; exact t0, by simp only [WS, List.getElem_cons_zero, List.getElem_cons_succ, Option.isNone_some, Option.isNone_none, List.getD_cons_zero, List.getD_cons_succ, I.at, atL, atO, atP, evp, evs, retV, ↓reduceIte, Nat.reduceEqDiff, reduceCtorEq]; exact t1, by simp only [WS, List.getElem_cons_zero, List.getElem_cons_succ, Option.isNone_some, Option.isNone_none, List.getD_cons_zero, List.getD_cons_succ, I.at, atL, atO, atP, evp, evs, retV, ↓reduceIte, Nat.reduceEqDiff, reduceCtorEq]; exact t6, by simp only [WS, List.getElem_cons_zero, List.getElem_cons_succ, Option.isNone_some, Option.isNone_none, List.getD_cons_zero, List.getD_cons_succ, I.at, atL, atO, atP, evp, evs, retV, ↓reduceIte, Nat.reduceEqDiff, reduceCtorEq]; exact t7, by simp only [WS, List.getElem_cons_zero, List.getElem_cons_succ, Option.isNone_some, Option.isNone_none, List.getD_cons_zero, List.getD_cons_succ, I.at, atL, atO, atP, evp, evs, retV, ↓reduceIte, Nat.reduceEqDiff, reduceCtorEq]; exact t8, 0, Rm, rfl, by omega, by rw [Nat.zero_mod], hm, hml, hqm, fun c i => by rw [if_neg (by omega)]⟩ ?_
    clear t0 t1 t6 t7 t8 hm
    rintro t w3 ⟨t0, t1, t6, t7, t8, o, R1, t9, ho, hom, hm, hl1, hq1, hco⟩
    by_cases hlt : o < 2 ^ k
    · have hle := mod0_lt (by omega) hom hmk hlt
      simp (maxSteps := 1000000) (disch := omega) only [WS, List.getElem_cons_zero, List.getElem_cons_succ, Option.isNone_some, Option.isNone_none, List.getD_cons_zero, List.getD_cons_succ, I.at, atL, atO, atP, evp, evs, retV, ↓reduceIte, Nat.reduceEqDiff, reduceCtorEq, AS, t0, t1, t6, t7, t8, t9]
      refine X_call0 ((afft_skew_spec w3 j (A + o) (by omega) (by omega)).mono ?_)
      rintro _ w4 ⟨rfl, hB4⟩
      have hm := hM.up _ _ _ hm hB4
      clear hB4
      simp (maxSteps := 1000000) (disch := omega) only [WS, List.getElem_cons_zero, List.getElem_cons_succ, Option.isNone_some, Option.isNone_none, List.getD_cons_zero, List.getD_cons_succ, I.at, atL, atO, atP, evp, evs, retV, ↓reduceIte, Nat.reduceEqDiff, reduceCtorEq, AS, t0, t1, t6, t7, t8, t9]
      refine loop_of (fun t w' => t 0 = rows ∧ t 1 = .int .i64 (A : Int) ∧ t 6 = .int .i64 ((2 ^ k : Nat) : Int) ∧ t 7 = .int .i64 (j : Int) ∧ t 8 = .int .i64 ((2 ^ j : Nat) : Int) ∧ t 9 = .int .i64 (o : Int) ∧ t 10 = .int .u16 ((wel ((A + o) >>> j)).v.toNat : Int) ∧ ∃ (i : Nat) (R' : List (List (El 16))), t 11 = .int .i64 (i : Int) ∧ o ≤ i ∧ i ≤ o + 2 ^ j ∧ M R' w' ∧ R'.length = 2 ^ k ∧ (∀ i, i < 2 ^ k → (R'.getD i []).length = q) ∧
          ∀ c x, colf R' c x = if x < i ∨ (o + 2 ^ j ≤ x ∧ x < i + 2 ^ j) then bin' j A (colf Rm c) x else colf Rm c x) (fun t _ => o + 2 ^ j - (toI (t 11)).toNat)
        ⟨by simp only [WS, List.getElem_cons_zero, List.getElem_cons_succ, Option.isNone_some, Option.isNone_none, List.getD_cons_zero, List.getD_cons_succ, I.at, atL, atO, atP, evp, evs, retV, ↓reduceIte, Nat.reduceEqDiff, reduceCtorEq]; exact t0, by simp only [WS, List.getElem_cons_zero, List.getElem_cons_succ, Option.isNone_some, Option.isNone_none, List.getD_cons_zero, List.getD_cons_succ, I.at, atL, atO, atP, evp, evs, retV, ↓reduceIte, Nat.reduceEqDiff, reduceCtorEq]; exact t1, by simp only [WS, List.getElem_cons_zero, List.getElem_cons_succ, Option.isNone_some, Option.isNone_none, List.getD_cons_zero, List.getD_cons_succ, I.at, atL, atO, atP, evp, evs, retV, ↓reduceIte, Nat.reduceEqDiff, reduceCtorEq]; exact t6, by simp only [WS, List.getElem_cons_zero, List.getElem_cons_succ, Option.isNone_some, Option.isNone_none, List.getD_cons_zero, List.getD_cons_succ, I.at, atL, atO, atP, evp, evs, retV, ↓reduceIte, Nat.reduceEqDiff, reduceCtorEq]; exact t7, by simp only [WS, List.getElem_cons_zero, List.getElem_cons_succ, Option.isNone_some, Option.isNone_none, List.getD_cons_zero, List.getD_cons_succ, I.at, atL, atO, atP, evp, evs, retV, ↓reduceIte, Nat.reduceEqDiff, reduceCtorEq]; exact t8, by simp only [WS, List.getElem_cons_zero, List.getElem_cons_succ, Option.isNone_some, Option.isNone_none, List.getD_cons_zero, List.getD_cons_succ, I.at, atL, atO, atP, evp, evs, retV, ↓reduceIte, Nat.reduceEqDiff, reduceCtorEq]; exact t9, rfl, o, R1, by simp only [WS, List.getElem_cons_zero, List.getElem_cons_succ, Option.isNone_some, Option.isNone_none, List.getD_cons_zero, List.getD_cons_succ, I.at, atL, atO, atP, evp, evs, retV, ↓reduceIte, Nat.reduceEqDiff, reduceCtorEq], Nat.le_refl _, by omega, hm, hl1, hq1, fun c x => by
          rw [hco c x]
          by_cases hx : x < o
          · rw [if_pos hx, if_pos (Or.inl hx)]
          · rw [if_neg hx, if_neg (by omega)]⟩ ?_
      clear t0 t1 t6 t7 t8 t9 hm hco hq1 hl1
      rintro t w5 ⟨t0, t1, t6, t7, t8, t9, t10, i, R2, t11, hi1, hi2, hm, hl2, hq2, hco⟩
      by_cases hil : i < o + 2 ^ j
      · have hih : i < hs.length := by omega
        have hih2 : i + 2 ^ j < hs.length := by omega
        simp (maxSteps := 1000000) (disch := omega) only [WS, List.getElem_cons_zero, List.getElem_cons_succ, Option.isNone_some, Option.isNone_none, List.getD_cons_zero, List.getD_cons_succ, I.at, atL, atO, atP, evp, evs, retV, ↓reduceIte, Nat.reduceEqDiff, reduceCtorEq, AS, t0, t1, t6, t7, t8, t9, t10, t11]
        refine WP_dops ?_
        have hmd := hM.up _ _ _ hm (bel_drew w5)
        have hsd := (hM.hd _ _ hmd).1
        simp (maxSteps := 1000000) (disch := omega) only [ES, List.mem_cons, List.not_mem_nil, implies_true, forall_const, WS, List.getElem_cons_zero, List.getElem_cons_succ, Option.isNone_some, Option.isNone_none, List.getD_cons_zero, List.getD_cons_succ, I.at, atL, atO, atP, evp, evs, retV, ↓reduceIte, Nat.reduceEqDiff, reduceCtorEq, AS, t0, t1, t6, t7, t8, t9, t10, t11, hsd.Eix hih, hsd.Eld hih, hsd.Eix hih2, hsd.Eld hih2]
        have W1 : ∀ b, Wr (fun a w => M ((R2.set i a).set (i + 2 ^ j) b) w) (Cell.v hs[i]) := fun b => by
          have := hM.wr (R2.set (i + 2 ^ j) b) i hih (by rw [List.length_set]; omega)
          refine this.iff fun a w => ?_
          rw [List.set_comm _ _ (show i ≠ i + 2 ^ j by omega)]
        have W2 : ∀ a, Wr (fun b w => M ((R2.set i a).set (i + 2 ^ j) b) w) (Cell.v hs[i + 2 ^ j]) := fun a => hM.wr (R2.set i a) (i + 2 ^ j) hih2 (by rw [List.length_set]; omega)
        have hself : M ((R2.set i (R2.getD i [])).set (i + 2 ^ j) (R2.getD (i + 2 ^ j) [])) w5.drew := by
          rw [set_getD R2 (by omega), set_getD R2 (by omega)]; exact hmd
        refine E_call0 ((afft_inverse_spec (M := fun a b w => M ((R2.set i a).set (i + 2 ^ j) b) w) (wel ((A + o) >>> j)) _ _ (R2.getD i []) (R2.getD (i + 2 ^ j) []) w5.drew W1 W2 hself (by rw [hq2 i (by omega), hq2 (i + 2 ^ j) (by omega)]) (by rw [hq2 i (by omega)]; exact hq46)).mono ?_)
        rintro _ w6 ⟨rfl, x', y', hm6, lx', ly', hx', hy'⟩
        simp (maxSteps := 1000000) (disch := omega) only [ES, List.mem_cons, List.not_mem_nil, implies_true, forall_const, WS, List.getElem_cons_zero, List.getElem_cons_succ, Option.isNone_some, Option.isNone_none, List.getD_cons_zero, List.getD_cons_succ, I.at, atL, atO, atP, evp, evs, retV, ↓reduceIte, Nat.reduceEqDiff, reduceCtorEq, AS, t0, t1, t6, t7, t8, t9, t10, t11]
        have s1 : i < R2.length := by omega
        have s2 : i + 2 ^ j < (R2.set i x').length := by rw [List.length_set]; omega
        refine ⟨⟨i + 1, _, rfl, by omega, by omega, hm6, by simp [hl2], fun x hx => ?_, fun c x => ?_⟩, by omega⟩
        · rw [getD_set _ s2, getD_set _ s1]
          by_cases e1 : x = i + 2 ^ j
          · rw [if_pos e1, ly']; exact hq2 _ (by omega)
          · rw [if_neg e1]
            by_cases e2 : x = i
            · rw [if_pos e2, lx']; exact hq2 _ (by omega)
            · rw [if_neg e2]; exact hq2 x hx
        · have g1 : (co (R2.getD i [])).c c = colf Rm c i := by have := hco c i; rw [if_neg (by omega)] at this; exact this
          have g2 : (co (R2.getD (i + 2 ^ j) [])).c c = colf Rm c (i + 2 ^ j) := by have := hco c (i + 2 ^ j); rw [if_neg (by omega)] at this; exact this
          rw [colf_set _ s2, colf_set _ s1]
          by_cases e1 : x = i + 2 ^ j
          · subst e1
            rw [if_pos rfl, if_pos (Or.inr ⟨by omega, by omega⟩), bin_piece hom _ (by omega) (by omega), if_neg (by omega), hy', g1, g2, Nat.add_sub_cancel]
          · rw [if_neg e1]
            by_cases e2 : x = i
            · subst e2
              rw [if_pos rfl, if_pos (Or.inl (by omega)), bin_piece hom _ (by omega) (by omega), if_pos (by omega), hx', g1, g2]
            · rw [if_neg e2, hco c x]
              by_cases e3 : x < i ∨ (o + 2 ^ j ≤ x ∧ x < i + 2 ^ j)
              · rw [if_pos e3, if_pos (by omega)]
              · rw [if_neg e3, if_neg (by omega)]
      · obtain rfl : i = o + 2 ^ j := by omega
        simp (maxSteps := 1000000) (disch := omega) only [WS, List.getElem_cons_zero, List.getElem_cons_succ, Option.isNone_some, Option.isNone_none, List.getD_cons_zero, List.getD_cons_succ, I.at, atL, atO, atP, evp, evs, retV, ↓reduceIte, Nat.reduceEqDiff, reduceCtorEq, AS, t0, t1, t6, t7, t8, t9, t10, t11]
        refine ⟨⟨o + 2 * 2 ^ j, R2, rfl, by omega, by rw [Nat.add_mod, hom, Nat.zero_add, Nat.mod_self, Nat.zero_mod], hm, hl2, hq2, fun c x => ?_⟩, by omega⟩
        rw [hco c x]
        by_cases hx : x < o + 2 * 2 ^ j
        · rw [if_pos hx, if_pos (by omega)]
        · rw [if_neg hx, if_neg (by omega)]
    · obtain rfl : o = 2 ^ k := by omega
      have h2k : 2 ^ (j + 1) = 2 * 2 ^ j := by rw [Nat.pow_succ, Nat.mul_comm]
      simp (maxSteps := 1000000) (disch := omega) only [WS, List.getElem_cons_zero, List.getElem_cons_succ, Option.isNone_some, Option.isNone_none, List.getD_cons_zero, List.getD_cons_succ, I.at, atL, atO, atP, evp, evs, retV, ↓reduceIte, Nat.reduceEqDiff, reduceCtorEq, AS, t0, t1, t6, t7, t8, t9]
      refine ⟨⟨j + 1, R1, rfl, by rw [h2k], by omega, hm, hl1, hq1, fun c i hi => ?_⟩, by simp only [Int.toNat_natCast]; omega⟩
      rw [hco c i, if_pos hi]
      exact bin_loc (n := 2 ^ k) hmk (fun i hi => hit c i hi) i hi
end Go.Proofs.Ytpmfeaajpjjfiaa.Fw

set_option linter.unusedVariables false
set_option linter.unusedSimpArgs false
set_option maxRecDepth 100000
set_option maxHeartbeats 1000000
namespace Go.Proofs.Ytpmfeaajpjjfiaa.Fw
open Go Go.Fw Go.Proofs
attribute [local irreducible] stepI
def c_culletlaw14_awake : C := .seq (.ops [⟨0, (some 0), none, .mov (.c (.bool false)), []⟩]) (.seq (.ops [⟨0, (some 10), none, .bsl 31 2 [.int .u16 0] [(0, (1, .c (.int .u16 7))), (1, (1, .c (.int .u16 1)))], []⟩, ⟨1, (some 11), none, .call (.c (.func (.func 18) #[] #[])) [.t 10, .c (.int .i64 0)], []⟩, ⟨2, (some 9), none, .mov (.t 11), []⟩, ⟨3, (some 12), none, .ext (.t 9) 0, []⟩, ⟨4, (some 13), none, .ext (.t 9) 1, []⟩, ⟨5, (some 1), none, .mov (.t 12), []⟩, ⟨6, (some 2), none, .mov (.t 13), []⟩]) (.seq (.ops [⟨0, (some 15), none, .bsl 31 2 [.int .u16 0] [(0, (1, .c (.int .u16 7))), (1, (1, .c (.int .u16 6)))], []⟩, ⟨1, (some 16), none, .call (.c (.func (.func 17) #[] #[])) [.t 15, .c (.int .i64 0)], []⟩, ⟨2, (some 14), none, .mov (.t 16), []⟩, ⟨3, (some 17), none, .ext (.t 14) 0, []⟩, ⟨4, (some 18), none, .ext (.t 14) 1, []⟩, ⟨5, (some 3), none, .mov (.t 17), []⟩, ⟨6, (some 4), none, .mov (.t 18), []⟩]) (.seq (.ops [⟨0, (some 20), none, .bsl 31 4 [.int .u16 0] [(0, (1, .c (.int .u16 5))), (1, (1, .c (.int .u16 5))), (2, (1, .c (.int .u16 3))), (3, (1, .c (.int .u16 3)))], []⟩, ⟨1, (some 21), none, .call (.c (.func (.func 22) #[] #[])) [.t 20, .c (.int .i64 2), .c (.int .i64 2)], []⟩, ⟨2, (some 19), none, .mov (.t 21), []⟩, ⟨3, (some 22), none, .ext (.t 19) 0, []⟩, ⟨4, (some 23), none, .ext (.t 19) 1, []⟩, ⟨5, (some 5), none, .mov (.t 22), []⟩, ⟨6, (some 6), none, .mov (.t 23), []⟩]) (.seq (.ops [⟨0, (some 24), none, .bsl 31 2 [.int .u16 0] [(0, (1, .c (.int .u16 7))), (1, (1, .c (.int .u16 5)))], []⟩, ⟨1, (some 25), none, .bsl 31 2 [.int .u16 0] [(0, (1, .c (.int .u16 1))), (1, (1, .c (.int .u16 0)))], []⟩, ⟨2, (some 26), none, .bsl 23 2 [.slice none 0 0] [(0, (1, .t 24)), (1, (1, .t 25))], []⟩, ⟨3, (some 7), none, .mov (.t 26), []⟩]) (.seq (.ops [⟨0, (some 27), none, .mov (.t 7), []⟩, ⟨1, (some 28), none, .call (.c (.func (.func 24) #[] #[])) [.t 27, .c (.int .i64 0)], []⟩, ⟨2, (some 8), none, .mov (.t 28), []⟩]) (.seq (.seq (.ops [⟨0, (some 29), none, .mov (.t 2), []⟩, ⟨1, (some 30), none, .bin .neq (.t 29) (.c (.int .i64 0)), []⟩, ⟨2, (some 31), none, .mov (.t 30), []⟩, ⟨3, (some 32), (some (31, false)), .mov (.t 4), []⟩, ⟨4, (some 33), (some (31, false)), .bin .neq (.t 32) (.c (.int .i64 0)), []⟩, ⟨5, (some 34), none, .pick (.t 31) (.c (.bool true)) (.t 33), []⟩, ⟨6, (some 35), none, .mov (.t 34), []⟩, ⟨7, (some 36), (some (35, false)), .mov (.t 6), []⟩, ⟨8, (some 37), (some (35, false)), .bin .neq (.t 36) (.c (.int .i64 0)), []⟩, ⟨9, (some 38), none, .pick (.t 35) (.c (.bool true)) (.t 37), []⟩, ⟨10, (some 39), none, .mov (.t 38), []⟩, ⟨11, (some 40), (some (39, false)), .mov (.t 8), []⟩, ⟨12, (some 41), (some (39, false)), .bin .neq (.t 40) (.c (.int .i64 0)), []⟩, ⟨13, (some 42), none, .pick (.t 39) (.c (.bool true)) (.t 41), []⟩]) (.ite (.t 42) (.seq (.ops [⟨0, (some 0), none, .mov (.c (.bool false)), []⟩]) .ret) .skip)) (.seq (.ops [⟨0, (some 43), none, .mov (.t 1), []⟩, ⟨1, (some 44), none, .bsl 31 2 [.int .u16 0] [(0, (1, .c (.int .u16 7))), (1, (1, .c (.int .u16 6)))], []⟩, ⟨2, (some 45), none, .call (.c (.func (.func 19) #[] #[])) [.t 43, .t 44], []⟩, ⟨3, (some 46), none, .mov (.t 45), []⟩, ⟨4, (some 47), (some (46, true)), .mov (.t 3), []⟩, ⟨5, (some 48), (some (46, true)), .bsl 31 2 [.int .u16 0] [(0, (1, .c (.int .u16 7))), (1, (1, .c (.int .u16 1)))], []⟩, ⟨6, (some 49), (some (46, true)), .call (.c (.func (.func 19) #[] #[])) [.t 47, .t 48], []⟩, ⟨7, (some 50), none, .pick (.t 46) (.t 49) (.c (.bool false)), []⟩, ⟨8, (some 51), none, .mov (.t 50), []⟩, ⟨9, (some 52), (some (51, true)), .mov (.t 5), []⟩, ⟨10, (some 53), (some (51, true)), .bsl 31 2 [.int .u16 0] [(0, (1, .c (.int .u16 6))), (1, (1, .c (.int .u16 0)))], []⟩, ⟨11, (some 54), (some (51, true)), .call (.c (.func (.func 19) #[] #[])) [.t 52, .t 53], []⟩, ⟨12, (some 55), none, .pick (.t 51) (.t 54) (.c (.bool false)), []⟩, ⟨13, (some 56), none, .mov (.t 55), []⟩, ⟨14, (some 57), (some (56, true)), .mov (.t 7), []⟩, ⟨15, (some 58), (some (56, true)), .len (.t 57), []⟩, ⟨16, (some 59), (some (56, true)), .bin .eql (.t 58) (.c (.int .i64 2)), []⟩, ⟨17, (some 60), none, .pick (.t 56) (.t 59) (.c (.bool false)), []⟩, ⟨18, (some 61), none, .mov (.t 60), []⟩, ⟨19, (some 62), (some (61, true)), .mov (.t 7), []⟩, ⟨20, (some 63), (some (61, true)), .ixs 1 (.t 62) (.c (.int .i64 0)), []⟩, ⟨21, (some 64), (some (61, true)), .ld (.t 63), []⟩, ⟨22, (some 65), (some (61, true)), .bsl 31 2 [.int .u16 0] [(0, (1, .c (.int .u16 7))), (1, (1, .c (.int .u16 5)))], []⟩, ⟨23, (some 66), (some (61, true)), .call (.c (.func (.func 19) #[] #[])) [.t 64, .t 65], []⟩, ⟨24, (some 67), none, .pick (.t 61) (.t 66) (.c (.bool false)), []⟩, ⟨25, (some 68), none, .mov (.t 67), []⟩, ⟨26, (some 69), (some (68, true)), .mov (.t 7), []⟩, ⟨27, (some 70), (some (68, true)), .ixs 1 (.t 69) (.c (.int .i64 1)), []⟩, ⟨28, (some 71), (some (68, true)), .ld (.t 70), []⟩, ⟨29, (some 72), (some (68, true)), .bsl 31 2 [.int .u16 0] [(0, (1, .c (.int .u16 6))), (1, (1, .c (.int .u16 5)))], []⟩, ⟨30, (some 73), (some (68, true)), .call (.c (.func (.func 19) #[] #[])) [.t 71, .t 72], []⟩, ⟨31, (some 74), none, .pick (.t 68) (.t 73) (.c (.bool false)), []⟩, ⟨32, (some 0), none, .mov (.t 74), []⟩]) .ret)))))))
attribute [irreducible] c_culletlaw14_awake
theorem run_culletlaw14_awake {args : List Value} {w : World} {K : Value → World → Prop} (hn : args.length ≤ 75) (h : WP Try.prog c_culletlaw14_awake (endQ [.t 0] K) (initT args) w) : CallV Try.prog 14 args w K :=
  call_of follows Try.func14 (by kernel_rfl) (by kernel_rfl) hn h
def c_culletlaw14_alike : C := .seq (.ops [⟨0, (some 4), none, .mov (.c (.bool false)), []⟩]) (.seq (.seq (.ops [⟨0, (some 6), none, .mov (.t 0), []⟩, ⟨1, (some 7), none, .len (.t 6), []⟩, ⟨2, (some 8), none, .mov (.t 1), []⟩, ⟨3, (some 9), none, .len (.t 8), []⟩, ⟨4, (some 10), none, .bin .neq (.t 7) (.t 9), []⟩]) (.ite (.t 10) (.seq (.ops [⟨0, (some 4), none, .mov (.c (.bool false)), []⟩]) .ret) .skip)) (.seq (.seq (.ops [⟨0, (some 5), none, .mov (.c (.int .i64 0)), []⟩]) (.block 0 (.loop (.seq (.seq (.ops [⟨0, (some 11), none, .mov (.t 5), []⟩, ⟨1, (some 12), none, .mov (.t 0), []⟩, ⟨2, (some 13), none, .len (.t 12), []⟩, ⟨3, (some 14), none, .bin .lss (.t 11) (.t 13), []⟩]) (.ite (.t 14) .skip (.exit 0))) (.seq (.block 1 (.seq (.dops [⟨0, (some 17), none, .mov (.t 0), []⟩, ⟨1, (some 18), none, .mov (.t 5), []⟩, ⟨2, (some 19), none, .ixs 1 (.t 17) (.t 18), []⟩, ⟨3, (some 20), none, .ld (.t 19), []⟩, ⟨4, (some 21), none, .mov (.t 1), []⟩, ⟨5, (some 22), none, .mov (.t 5), []⟩, ⟨6, (some 23), none, .ixs 1 (.t 21) (.t 22), []⟩, ⟨7, (some 24), none, .ld (.t 23), []⟩, ⟨8, (some 25), none, .bin .neq (.t 20) (.t 24), []⟩]) (.ite (.t 25) (.seq (.ops [⟨0, (some 4), none, .mov (.c (.bool false)), []⟩]) .ret) .skip))) (.ops [⟨0, (some 15), none, .mov (.t 5), []⟩, ⟨1, (some 16), none, .bin .add (.t 15) (.c (.int .i64 1)), []⟩, ⟨2, (some 5), none, .mov (.t 16), []⟩])))))) (.seq (.ops [⟨0, (some 4), none, .mov (.c (.bool true)), []⟩]) .ret)))
attribute [irreducible] c_culletlaw14_alike
theorem run_culletlaw14_alike {args : List Value} {w : World} {K : Value → World → Prop} (hn : args.length ≤ 26) (h : WP Try.prog c_culletlaw14_alike (endQ [.t 4] K) (initT args) w) : CallV Try.prog 19 args w K :=
  call_of follows Try.func19 (by kernel_rfl) (by kernel_rfl) hn h
end Go.Proofs.Ytpmfeaajpjjfiaa.Fw
namespace Go.Proofs.Ytpmfeaajpjjfiaa.Fw
open Go Go.Fw
theorem culletlaw14_alike_spec (w : World) (s1 s2 : Value) (l1 l2 : List (El 16)) (h1 : Sl w s1 l1) (h2 : Sl w s2 l2) (hb : l1.length ≤ 140737488355328) (hb2 : l2.length ≤ 140737488355328) :
    CallV Try.prog 19 [s1, s2] w fun v w' => v = .bool (decide (l1 = l2)) ∧ Like w w' := by
  refine run_culletlaw14_alike (by simp) ?_
  simp only [c_culletlaw14_alike, WS, List.getElem_cons_zero, List.getElem_cons_succ, Option.isNone_some, Option.isNone_none, List.getD_cons_zero, List.getD_cons_succ, I.at, atL, atO, atP, evp, evs, retV, ↓reduceIte, Nat.reduceEqDiff, reduceCtorEq, h1.Xlen, h2.Xlen]
  by_cases hl : l1.length = l2.length
  · simp only [WS, List.getElem_cons_zero, List.getElem_cons_succ, Option.isNone_some, Option.isNone_none, List.getD_cons_zero, List.getD_cons_succ, I.at, atL, atO, atP, evp, evs, retV, ↓reduceIte, Nat.reduceEqDiff, reduceCtorEq, show decide ((l1.length : Int) = (l2.length : Int)) = true from decide_eq_true (by omega)]
    refine loop_of (fun t w' => Like w w' ∧ t 0 = s1 ∧ t 1 = s2 ∧ ∃ i : Nat, t 5 = .int .i64 (i : Int) ∧ i ≤ l1.length ∧ l1.take i = l2.take i) (fun t _ => l1.length - (toI (t 5)).toNat) ⟨Like.refl w, rfl, rfl, 0, rfl, by omega, by simp⟩ ?_
    rintro t w' ⟨hk, t0, t1, i, t5, hi, he⟩
    have g1 := hk.sl h1
    have g2 := hk.sl h2
    by_cases hlt : i < l1.length
    · have hlt2 : i < l2.length := by omega
      simp only [WS, List.getElem_cons_zero, List.getElem_cons_succ, Option.isNone_some, Option.isNone_none, List.getD_cons_zero, List.getD_cons_succ, I.at, atL, atO, atP, evp, evs, retV, ↓reduceIte, Nat.reduceEqDiff, reduceCtorEq, t0, t1, t5, g1.Xlen, show decide ((i : Int) < (l1.length : Int)) = true from decide_eq_true (by omega)]
      refine WP_dops ?_
      simp only [ES, List.mem_cons, List.not_mem_nil, implies_true, forall_const, WS, List.getElem_cons_zero, List.getElem_cons_succ, Option.isNone_some, Option.isNone_none, List.getD_cons_zero, List.getD_cons_succ, I.at, atL, atO, atP, evp, evs, retV, ↓reduceIte, Nat.reduceEqDiff, reduceCtorEq, t0, t1, t5, g1.drew.Eix hlt, g1.drew.Eld hlt, g2.drew.Eix hlt2, g2.drew.Eld hlt2, cell_e16, el_eq]
      by_cases hx : l1[i] = l2[i]
      · simp only [WS, List.getElem_cons_zero, List.getElem_cons_succ, Option.isNone_some, Option.isNone_none, List.getD_cons_zero, List.getD_cons_succ, I.at, atL, atO, atP, evp, evs, retV, ↓reduceIte, Nat.reduceEqDiff, reduceCtorEq, t0, t1, t5, decide_eq_true hx, wrap_id (show -9223372036854775808 ≤ (i : Int) + 1 by omega) (show (i : Int) + 1 < 9223372036854775808 by omega), toI_int]
        refine ⟨⟨hk.trans (Like.drew _), i + 1, rfl, by omega, ?_⟩, by omega⟩
        rw [List.take_add_one, List.take_add_one, he, List.getElem?_eq_getElem hlt, List.getElem?_eq_getElem hlt2, hx]
      · have : ¬ l1 = l2 := fun e => hx (by subst e; rfl)
        simp only [WS, List.getElem_cons_zero, List.getElem_cons_succ, Option.isNone_some, Option.isNone_none, List.getD_cons_zero, List.getD_cons_succ, I.at, atL, atO, atP, evp, evs, retV, ↓reduceIte, Nat.reduceEqDiff, reduceCtorEq, t0, t1, t5, decide_eq_false hx, decide_eq_false this]
        exact hk.trans (Like.drew _)
    · rw [List.take_of_length_le (by omega), List.take_of_length_le (by omega)] at he
      simp only [WS, List.getElem_cons_zero, List.getElem_cons_succ, Option.isNone_some, Option.isNone_none, List.getD_cons_zero, List.getD_cons_succ, I.at, atL, atO, atP, evp, evs, retV, ↓reduceIte, Nat.reduceEqDiff, reduceCtorEq, t0, t1, t5, g1.Xlen, show decide ((i : Int) < (l1.length : Int)) = false from decide_eq_false (by omega), decide_eq_true he]
      exact hk
  · have : ¬ l1 = l2 := fun e => hl (by rw [e])
    simp only [WS, List.getElem_cons_zero, List.getElem_cons_succ, Option.isNone_some, Option.isNone_none, List.getD_cons_zero, List.getD_cons_succ, I.at, atL, atO, atP, evp, evs, retV, ↓reduceIte, Nat.reduceEqDiff, reduceCtorEq, show decide ((l1.length : Int) = (l2.length : Int)) = false from decide_eq_false (by omega), decide_eq_false this]
    exact Like.refl w
end Go.Proofs.Ytpmfeaajpjjfiaa.Fw

namespace Go.Proofs.Ytpmfeaajpjjfiaa.Fw
open Go Go.Fw
theorem culletlaw14_awake_spec (w : World) : CallV Try.prog 14 [] w fun v w' => v = .bool true ∧ RowKit.Below w.heap.size w w' := by
  refine run_culletlaw14_awake (by simp) ?_
  simp only [c_culletlaw14_awake, WS, List.getElem_cons_zero, List.getElem_cons_succ, Option.isNone_some, Option.isNone_none, List.getD_cons_zero, List.getD_cons_succ, I.at, atL, atO, atP, evp, evs, retV, ↓reduceIte, Nat.reduceEqDiff, reduceCtorEq]
  refine X_bsl (zs := [(⟨7⟩ : El 16), ⟨1⟩]) (by rfl) (by rfl) fun c1 w1 hc1 hB => ?_
  have B := hB
  clear hB
  simp (maxSteps := 1000000) (disch := omega) only [WS, List.getElem_cons_zero, List.getElem_cons_succ, Option.isNone_some, Option.isNone_none, List.getD_cons_zero, List.getD_cons_succ, I.at, atL, atO, atP, evp, evs, retV, ↓reduceIte, Nat.reduceEqDiff, reduceCtorEq, AS]
  refine X_call0 ((afft_Forward_spec w1 c1 _ 0 hc1.sl (by simp)).mono ?_)
  rintro _ w2 ⟨hB, ⟨k, hk, hlk, -, sa, a, rfl, oa, la, hva⟩ | ⟨hbad, -⟩ | ⟨-, hbad, -⟩⟩
  rotate_left
  · exact absurd hbad (by decide +kernel)
  · exact absurd hbad (by decide +kernel)
  obtain rfl : k = 1 := pow2_inj hlk.symm
  obtain rfl : a = [⟨7⟩, ⟨6⟩] := (list_co la hva).trans (by decide +kernel)
  have oa := oa.sl
  clear hlk la hva hc1
  have B := B.trans (hB.mono B.size)
  clear hB
  simp (maxSteps := 1000000) (disch := omega) only [WS, List.getElem_cons_zero, List.getElem_cons_succ, Option.isNone_some, Option.isNone_none, List.getD_cons_zero, List.getD_cons_succ, I.at, atL, atO, atP, evp, evs, retV, ↓reduceIte, Nat.reduceEqDiff, reduceCtorEq, AS]
  refine X_bsl (zs := [(⟨7⟩ : El 16), ⟨6⟩]) (by rfl) (by rfl) fun c1 w1 hc1 hB => ?_
  have oa := oa.up hB
  have B := B.trans (hB.mono B.size)
  clear hB
  simp (maxSteps := 1000000) (disch := omega) only [WS, List.getElem_cons_zero, List.getElem_cons_succ, Option.isNone_some, Option.isNone_none, List.getD_cons_zero, List.getD_cons_succ, I.at, atL, atO, atP, evp, evs, retV, ↓reduceIte, Nat.reduceEqDiff, reduceCtorEq, AS]
  refine X_call0 ((afft_Inverse_spec w1 c1 _ 0 hc1.sl (by simp)).mono ?_)
  rintro _ w2 ⟨hB, ⟨k, hk, hlk, -, sb, b, rfl, ob, lb, hvb⟩ | ⟨hbad, -⟩ | ⟨-, hbad, -⟩⟩
  rotate_left
  · exact absurd hbad (by decide +kernel)
  · exact absurd hbad (by decide +kernel)
  obtain rfl : k = 1 := pow2_inj hlk.symm
  obtain rfl : b = [⟨7⟩, ⟨1⟩] := (list_co lb hvb).trans (by decide +kernel)
  have ob := ob.sl
  clear hlk lb hvb hc1
  have oa := oa.up hB
  have B := B.trans (hB.mono B.size)
  clear hB
  simp (maxSteps := 1000000) (disch := omega) only [WS, List.getElem_cons_zero, List.getElem_cons_succ, Option.isNone_some, Option.isNone_none, List.getD_cons_zero, List.getD_cons_succ, I.at, atL, atO, atP, evp, evs, retV, ↓reduceIte, Nat.reduceEqDiff, reduceCtorEq, AS]
  refine X_bsl (zs := [(⟨5⟩ : El 16), ⟨5⟩, ⟨3⟩, ⟨3⟩]) (by rfl) (by rfl) fun c1 w1 hc1 hB => ?_
  have oa := oa.up hB
  have ob := ob.up hB
  have B := B.trans (hB.mono B.size)
  clear hB
  simp (maxSteps := 1000000) (disch := omega) only [WS, List.getElem_cons_zero, List.getElem_cons_succ, Option.isNone_some, Option.isNone_none, List.getD_cons_zero, List.getD_cons_succ, I.at, atL, atO, atP, evp, evs, retV, ↓reduceIte, Nat.reduceEqDiff, reduceCtorEq, AS]
  refine X_call0 ((afft_Fold_spec w1 c1 _ 2 2 hc1.sl (by simp)).mono ?_)
  rintro _ w2 ⟨hB, ⟨k, q, hk, hn, hlk, -, -, sc, c, rfl, oc, lc, hvc⟩ | ⟨hbad, -⟩ | ⟨-, hbad, -⟩ | ⟨-, -, hbad, -⟩⟩
  rotate_left
  · exact absurd hbad (by decide +kernel)
  · exact absurd hbad (by decide +kernel)
  · exact absurd hbad (by decide +kernel)
  obtain rfl : k = 1 := pow2_inj (show 2 ^ k = 2 ^ 1 by omega)
  obtain rfl : q = 2 := by simp at hlk; omega
  obtain rfl : c = [⟨6⟩, ⟨0⟩] := (list_co lc hvc).trans (by decide +kernel)
  have oc := oc.sl
  clear hlk lc hvc hc1 hn
  have oa := oa.up hB
  have ob := ob.up hB
  have B := B.trans (hB.mono B.size)
  clear hB
  simp (maxSteps := 1000000) (disch := omega) only [WS, List.getElem_cons_zero, List.getElem_cons_succ, Option.isNone_some, Option.isNone_none, List.getD_cons_zero, List.getD_cons_succ, I.at, atL, atO, atP, evp, evs, retV, ↓reduceIte, Nat.reduceEqDiff, reduceCtorEq, AS]
  refine X_bsl (zs := [(⟨7⟩ : El 16), ⟨5⟩]) (by rfl) (by rfl) fun r1 w3 o1 hB3 => ?_
  simp (maxSteps := 1000000) (disch := omega) only [WS, List.getElem_cons_zero, List.getElem_cons_succ, Option.isNone_some, Option.isNone_none, List.getD_cons_zero, List.getD_cons_succ, I.at, atL, atO, atP, evp, evs, retV, ↓reduceIte, Nat.reduceEqDiff, reduceCtorEq, AS]
  refine X_bsl (zs := [(⟨1⟩ : El 16), ⟨0⟩]) (by rfl) (by rfl) fun r2 w4 o2 hB4 => ?_
  have n1 : ∀ b, Fw.blk r1 = some b → b < w3.heap.size := fun b hb => (o1.blk b hb).2
  have n2 : ∀ b, Fw.blk r2 = some b → w3.heap.size ≤ b ∧ b < w4.heap.size := fun b hb => o2.blk b hb
  have o1 := o1.up hB4
  simp (maxSteps := 1000000) (disch := omega) only [WS, List.getElem_cons_zero, List.getElem_cons_succ, Option.isNone_some, Option.isNone_none, List.getD_cons_zero, List.getD_cons_succ, I.at, atL, atO, atP, evp, evs, retV, ↓reduceIte, Nat.reduceEqDiff, reduceCtorEq, AS]
  refine X_bsl (zs := [hd r1, hd r2]) (fill2 o1.sl o2.sl) (by rfl) fun rows w5 orr hB5 => ?_
  have n3 : ∀ b, Fw.blk rows = some b → w4.heap.size ≤ b := fun b hb => (orr.blk b hb).1
  have o1 := o1.up hB5
  have o2 := (o2.up hB5).mono hB3.size
  have hB' : RowKit.Below w2.heap.size w2 w5 := (hB3.trans (hB4.mono hB3.size)).trans (hB5.mono (Nat.le_trans hB3.size hB4.size))
  have s5 : w2.heap.size ≤ w5.heap.size := hB'.size
  have v1 : Cell.v (hd r1) = r1 := o1.sl.hd.1
  have v2 : Cell.v (hd r2) = r2 := o2.sl.hd.1
  have hap : Apart rows [hd r1, hd r2] := by
    constructor
    · intro i j hi hj b hij hb1 hb2
      have : (i = 0 ∧ j = 1) ∨ (i = 1 ∧ j = 0) := by simp at hi hj; omega
      rcases this with ⟨rfl, rfl⟩ | ⟨rfl, rfl⟩
      · simp only [List.getElem_cons_zero, List.getElem_cons_succ, v1, v2] at hb1 hb2
        have := n1 b hb1; have := n2 b hb2; omega
      · simp only [List.getElem_cons_zero, List.getElem_cons_succ, v1, v2] at hb1 hb2
        have := n1 b hb2; have := n2 b hb1; omega
    · intro i hi b hb1 hb2
      have h3 := n3 b hb2
      have : i = 0 ∨ i = 1 := by simp at hi; omega
      rcases this with rfl | rfl
      · simp only [List.getElem_cons_zero, v1] at hb1
        have := n1 b hb1; have := hB4.size; omega
      · simp only [List.getElem_cons_zero, List.getElem_cons_succ, v2] at hb1
        have := n2 b hb1; omega
  have hR : Rown (α := El 16) w2.heap.size w2 rows [hd r1, hd r2] [[⟨7⟩, ⟨5⟩], [⟨1⟩, ⟨0⟩]] w5 := by
    refine ⟨rfl, fun i hi => ?_, orr.sl, hB', s5⟩
    have : i = 0 ∨ i = 1 := by simp at hi; omega
    rcases this with rfl | rfl
    · simp only [List.getElem_cons_zero, v1]; exact o1
    · simp only [List.getElem_cons_zero, List.getElem_cons_succ, v2]; exact o2
  clear o1 o2 orr hB3 hB4 hB5 n1 n2 n3 hB' s5
  simp (maxSteps := 1000000) (disch := omega) only [WS, List.getElem_cons_zero, List.getElem_cons_succ, Option.isNone_some, Option.isNone_none, List.getD_cons_zero, List.getD_cons_succ, I.at, atL, atO, atP, evp, evs, retV, ↓reduceIte, Nat.reduceEqDiff, reduceCtorEq, AS]
  have h01 : ∀ i, i < [hd r1, hd r2].length → i = 0 ∨ i = 1 := fun i hi => by simp at hi; omega
  have hb01 : ∀ i, i < [hd r1, hd r2].length → (List.getD [[(⟨7⟩ : El 16), ⟨5⟩], [⟨1⟩, ⟨0⟩]] i []).length = 2 := fun i hi => by
    rcases h01 i hi with rfl | rfl <;> rfl
  refine X_call0 ((afft_ForwardRows_spec (M := Rown w2.heap.size w2 rows [hd r1, hd r2]) w5 rows [hd r1, hd r2] _ 0 (Rown.rws hap) hR (by simp) (fun i hi => by rw [hb01 i hi]; omega)).mono ?_)
  rintro _ w6 (⟨k, q, hk, hlk, -, hq, rfl, R', hM, hRl, hql, hit⟩ | ⟨rfl, ⟨hbad, -⟩ | ⟨-, hbad, -⟩ | ⟨-, -, hbad, -⟩⟩)
  rotate_left
  · exact absurd hbad (show ¬ isP 2 = false by decide +kernel)
  · exact absurd ⟨2, hb01⟩ hbad
  · exact absurd hbad (show ¬ isC 0 2 2 = false by decide +kernel)
  obtain rfl : k = 1 := pow2_inj hlk.symm
  obtain rfl : q = 2 := (hq 0 (by decide)).symm
  have e0 : R'.getD 0 [] = [⟨7⟩, ⟨5⟩] := (list_co (hql 0 (by decide)) (fun c hc => hit 0 c (by decide))).trans (by decide +kernel)
  have e1 : R'.getD 1 [] = [⟨6⟩, ⟨5⟩] := (list_co (hql 1 (by decide)) (fun c hc => hit 1 c (by decide))).trans (by decide +kernel)
  obtain ⟨-, hO, hrows, hBr, hsr⟩ := hM
  have q0 := (hO 0 (by simp)).sl
  have q1 := (hO 1 (by simp)).sl
  rw [e0] at q0
  rw [e1] at q1
  simp only [List.getElem_cons_zero, List.getElem_cons_succ, v1, v2] at q0 q1
  have oa := oa.up hBr
  have ob := ob.up hBr
  have oc := oc.up hBr
  have B := B.trans (hBr.mono B.size)
  clear hBr
  clear hO e0 e1 hit hql hR hap hq hRl hlk
  simp (maxSteps := 1000000) (disch := omega) only [WS, List.getElem_cons_zero, List.getElem_cons_succ, Option.isNone_some, Option.isNone_none, List.getD_cons_zero, List.getD_cons_succ, I.at, atL, atO, atP, evp, evs, retV, ↓reduceIte, Nat.reduceEqDiff, reduceCtorEq, AS]
  refine X_bsl (zs := [(⟨7⟩ : El 16), ⟨6⟩]) (by rfl) (by rfl) fun c1 w1 hc1 hB => ?_
  have oa := oa.up hB
  have ob := ob.up hB
  have oc := oc.up hB
  have q0 := q0.up hB
  have q1 := q1.up hB
  have hrows := hrows.up hB
  have B := B.trans (hB.mono B.size)
  clear hB
  simp (maxSteps := 1000000) (disch := omega) only [WS, List.getElem_cons_zero, List.getElem_cons_succ, Option.isNone_some, Option.isNone_none, List.getD_cons_zero, List.getD_cons_succ, I.at, atL, atO, atP, evp, evs, retV, ↓reduceIte, Nat.reduceEqDiff, reduceCtorEq, AS]
  refine X_call0 ((culletlaw14_alike_spec w1 sa c1 _ _ oa hc1.sl (by simp) (by simp)).mono ?_)
  rintro _ w2 ⟨rfl, hk1⟩
  have hB := hk1.1
  have ob := ob.up hB
  have oc := oc.up hB
  have q0 := q0.up hB
  have q1 := q1.up hB
  have hrows := hrows.up hB
  have B := B.trans (hB.mono B.size)
  clear hB
  clear hc1 hk1
  simp (maxSteps := 1000000) (disch := omega) only [WS, List.getElem_cons_zero, List.getElem_cons_succ, Option.isNone_some, Option.isNone_none, List.getD_cons_zero, List.getD_cons_succ, I.at, atL, atO, atP, evp, evs, retV, ↓reduceIte, Nat.reduceEqDiff, reduceCtorEq, AS]
  refine X_bsl (zs := [(⟨7⟩ : El 16), ⟨1⟩]) (by rfl) (by rfl) fun c1 w1 hc1 hB => ?_
  have ob := ob.up hB
  have oc := oc.up hB
  have q0 := q0.up hB
  have q1 := q1.up hB
  have hrows := hrows.up hB
  have B := B.trans (hB.mono B.size)
  clear hB
  simp (maxSteps := 1000000) (disch := omega) only [WS, List.getElem_cons_zero, List.getElem_cons_succ, Option.isNone_some, Option.isNone_none, List.getD_cons_zero, List.getD_cons_succ, I.at, atL, atO, atP, evp, evs, retV, ↓reduceIte, Nat.reduceEqDiff, reduceCtorEq, AS]
  refine X_call0 ((culletlaw14_alike_spec w1 sb c1 _ _ ob hc1.sl (by simp) (by simp)).mono ?_)
  rintro _ w2 ⟨rfl, hk1⟩
  have hB := hk1.1
  have oc := oc.up hB
  have q0 := q0.up hB
  have q1 := q1.up hB
  have hrows := hrows.up hB
  have B := B.trans (hB.mono B.size)
  clear hB
  clear hc1 hk1
  simp (maxSteps := 1000000) (disch := omega) only [WS, List.getElem_cons_zero, List.getElem_cons_succ, Option.isNone_some, Option.isNone_none, List.getD_cons_zero, List.getD_cons_succ, I.at, atL, atO, atP, evp, evs, retV, ↓reduceIte, Nat.reduceEqDiff, reduceCtorEq, AS]
  refine X_bsl (zs := [(⟨6⟩ : El 16), ⟨0⟩]) (by rfl) (by rfl) fun c1 w1 hc1 hB => ?_
  have oc := oc.up hB
  have q0 := q0.up hB
  have q1 := q1.up hB
  have hrows := hrows.up hB
  have B := B.trans (hB.mono B.size)
  clear hB
  simp (maxSteps := 1000000) (disch := omega) only [WS, List.getElem_cons_zero, List.getElem_cons_succ, Option.isNone_some, Option.isNone_none, List.getD_cons_zero, List.getD_cons_succ, I.at, atL, atO, atP, evp, evs, retV, ↓reduceIte, Nat.reduceEqDiff, reduceCtorEq, AS]
  refine X_call0 ((culletlaw14_alike_spec w1 sc c1 _ _ oc hc1.sl (by simp) (by simp)).mono ?_)
  rintro _ w2 ⟨rfl, hk1⟩
  have hB := hk1.1
  have q0 := q0.up hB
  have q1 := q1.up hB
  have hrows := hrows.up hB
  have B := B.trans (hB.mono B.size)
  clear hB
  clear hc1 hk1
  simp (maxSteps := 1000000) (disch := omega) only [WS, List.getElem_cons_zero, List.getElem_cons_succ, Option.isNone_some, Option.isNone_none, List.getD_cons_zero, List.getD_cons_succ, I.at, atL, atO, atP, evp, evs, retV, ↓reduceIte, Nat.reduceEqDiff, reduceCtorEq, AS, hrows.Xlen, show (([hd r1, hd r2].length : Nat) : Int) = 2 from rfl, hrows.Xix0 (by simp), hrows.Xld (i := 0) (by simp), v1]
  refine X_bsl (zs := [(⟨7⟩ : El 16), ⟨5⟩]) (by rfl) (by rfl) fun c1 w1 hc1 hB => ?_
  have q0 := q0.up hB
  have q1 := q1.up hB
  have hrows := hrows.up hB
  have B := B.trans (hB.mono B.size)
  clear hB
  simp (maxSteps := 1000000) (disch := omega) only [WS, List.getElem_cons_zero, List.getElem_cons_succ, Option.isNone_some, Option.isNone_none, List.getD_cons_zero, List.getD_cons_succ, I.at, atL, atO, atP, evp, evs, retV, ↓reduceIte, Nat.reduceEqDiff, reduceCtorEq, AS]
  refine X_call0 ((culletlaw14_alike_spec w1 r1 c1 _ _ q0 hc1.sl (by simp) (by simp)).mono ?_)
  rintro _ w2 ⟨rfl, hk1⟩
  have hB := hk1.1
  have q1 := q1.up hB
  have hrows := hrows.up hB
  have B := B.trans (hB.mono B.size)
  clear hB
  clear hc1 hk1
  simp (maxSteps := 1000000) (disch := omega) only [WS, List.getElem_cons_zero, List.getElem_cons_succ, Option.isNone_some, Option.isNone_none, List.getD_cons_zero, List.getD_cons_succ, I.at, atL, atO, atP, evp, evs, retV, ↓reduceIte, Nat.reduceEqDiff, reduceCtorEq, AS, hrows.Xixc 1 1 rfl (by simp), hrows.Xld (i := 1) (by simp), v2]
  refine X_bsl (zs := [(⟨6⟩ : El 16), ⟨5⟩]) (by rfl) (by rfl) fun c1 w1 hc1 hB => ?_
  have q1 := q1.up hB
  have hrows := hrows.up hB
  have B := B.trans (hB.mono B.size)
  clear hB
  simp (maxSteps := 1000000) (disch := omega) only [WS, List.getElem_cons_zero, List.getElem_cons_succ, Option.isNone_some, Option.isNone_none, List.getD_cons_zero, List.getD_cons_succ, I.at, atL, atO, atP, evp, evs, retV, ↓reduceIte, Nat.reduceEqDiff, reduceCtorEq, AS]
  refine X_call0 ((culletlaw14_alike_spec w1 r2 c1 _ _ q1 hc1.sl (by simp) (by simp)).mono ?_)
  rintro _ w2 ⟨rfl, hk1⟩
  have hB := hk1.1
  have B := B.trans (hB.mono B.size)
  clear hB
  simp (maxSteps := 1000000) (disch := omega) only [WS, List.getElem_cons_zero, List.getElem_cons_succ, Option.isNone_some, Option.isNone_none, List.getD_cons_zero, List.getD_cons_succ, I.at, atL, atO, atP, evp, evs, retV, ↓reduceIte, Nat.reduceEqDiff, reduceCtorEq, AS]
  exact B
end Go.Proofs.Ytpmfeaajpjjfiaa.Fw

set_option linter.unusedVariables false
set_option linter.unusedSimpArgs false
set_option maxRecDepth 100000
set_option maxHeartbeats 1000000
namespace Go.Proofs.Ytpmfeaajpjjfiaa.Fw
open Go Go.Fw Go.Proofs
attribute [local irreducible] stepI
end Go.Proofs.Ytpmfeaajpjjfiaa.Fw
namespace Go.Proofs.Ytpmfeaajpjjfiaa.Fw
open Go Go.Fw
end Go.Proofs.Ytpmfeaajpjjfiaa.Fw
