import Derived.Test.YtpmfeaajpjjfiaaProg
import Derived.Test.YtpmfeaajpjjfiaaFwTP
import Derived.Test.YtpmfeaajpjjfiaaSS14gP
set_option linter.all false
set_option linter.unusedVariables false
set_option linter.unusedSimpArgs false
set_option maxRecDepth 100000
set_option maxHeartbeats 1000000
namespace Go.Proofs.Ytpmfeaajpjjfiaa.Fw
open Go Go.Fw Go.Proofs
attribute [local irreducible] stepI
def c_afft_refuses : C := .seq (.ops [⟨0, (some 4), none, .mov (.c (.int .i64 0)), []⟩]) (.seq (.ops [⟨0, (some 8), none, .mov (.t 0), []⟩, ⟨1, (some 9), none, .len (.t 8), []⟩, ⟨2, (some 5), none, .mov (.t 9), []⟩]) (.seq (.seq (.ops [⟨0, (some 10), none, .mov (.t 5), []⟩, ⟨1, (some 11), none, .call (.c (.func (.func 34) #[] #[])) [.t 10], []⟩, ⟨2, (some 12), none, .un .not (.t 11), []⟩]) (.ite (.t 12) (.seq (.ops [⟨0, (some 4), none, .mov (.c (.int .i64 130)), []⟩]) .ret) .skip)) (.seq (.seq (.ops [⟨0, (some 13), none, .mov (.t 0), []⟩, ⟨1, (some 14), none, .len (.t 13), []⟩, ⟨2, (some 15), none, .mov (.c (.int .i64 0)), []⟩]) (.block 0 (.loop (.seq (.ops [⟨0, (some 16), none, .bin .lss (.t 15) (.t 14), []⟩]) (.seq (.ite (.t 16) .skip (.exit 0)) (.seq (.block 1 (.seq (.ops [⟨0, (some 17), none, .ixs 1 (.t 13) (.t 15), []⟩, ⟨1, (some 18), none, .ld (.t 17), []⟩, ⟨2, (some 7), none, .mov (.t 18), []⟩]) (.seq (.ops [⟨0, (some 19), none, .mov (.t 7), []⟩, ⟨1, (some 20), none, .len (.t 19), []⟩, ⟨2, (some 21), none, .mov (.t 0), []⟩, ⟨3, (some 22), none, .ixs 1 (.t 21) (.c (.int .i64 0)), []⟩, ⟨4, (some 23), none, .ld (.t 22), []⟩, ⟨5, (some 24), none, .len (.t 23), []⟩, ⟨6, (some 25), none, .bin .neq (.t 20) (.t 24), []⟩]) (.ite (.t 25) (.seq (.ops [⟨0, (some 4), none, .mov (.c (.int .i64 6)), []⟩]) .ret) .skip)))) (.ops [⟨0, (some 26), none, .bin .add (.t 15) (.c (.int .i64 1)), []⟩, ⟨1, (some 15), none, .mov (.t 26), []⟩]))))))) (.seq (.seq (.ops [⟨0, (some 27), none, .mov (.t 1), []⟩, ⟨1, (some 28), none, .mov (.t 5), []⟩, ⟨2, (some 29), none, .mov (.t 5), []⟩, ⟨3, (some 30), none, .call (.c (.func (.func 35) #[] #[])) [.t 27, .t 28, .t 29], []⟩, ⟨4, (some 31), none, .un .not (.t 30), []⟩]) (.ite (.t 31) (.seq (.ops [⟨0, (some 4), none, .mov (.c (.int .i64 140)), []⟩]) .ret) .skip)) (.seq (.ops [⟨0, (some 4), none, .mov (.c (.int .i64 0)), []⟩]) .ret)))))
attribute [irreducible] c_afft_refuses
theorem run_afft_refuses {args : List Value} {w : World} {K : Value → World → Prop} (hn : args.length ≤ 32) (h : WP Try.prog c_afft_refuses (endQ [.t 4] K) (initT args) w) : CallV Try.prog 41 args w K :=
  call_of follows Try.func41 (by kernel_rfl) (by kernel_rfl) hn h
end Go.Proofs.Ytpmfeaajpjjfiaa.Fw
namespace Go.Proofs.Ytpmfeaajpjjfiaa.Fw
open Go Go.Fw
/-- Column c of rows. -/
def colf (R : List (List (El 16))) (c : Nat) (i : Nat) : El 16 := (co (R.getD i [])).c c
theorem colf_set (R : List (List (El 16))) {i : Nat} (h : i < R.length) (a : List (El 16)) (c x : Nat) : colf (R.set i a) c x = if x = i then (co a).c c else colf R c x := by
  unfold colf
  simp only [List.getD_eq_getElem?_getD, List.getElem?_set]
  by_cases hx : x = i
  · subst hx; rw [if_pos rfl, if_pos rfl, if_pos h]; rfl
  · rw [if_neg (fun e => hx e.symm), if_neg hx]
theorem getD_set (R : List (List (El 16))) {i : Nat} (h : i < R.length) (a : List (El 16)) (x : Nat) : (R.set i a).getD x [] = if x = i then a else R.getD x [] := by
  simp only [List.getD_eq_getElem?_getD, List.getElem?_set]
  by_cases hx : x = i
  · subst hx; rw [if_pos rfl, if_pos rfl, if_pos h]; rfl
  · rw [if_neg (fun e => hx e.symm), if_neg hx]
theorem set_getD (R : List (List (El 16))) {i : Nat} (h : i < R.length) : R.set i (R.getD i []) = R := by
  rw [List.getD_eq_getElem?_getD, List.getElem?_eq_getElem h]; simp
theorem afft_refuses_spec (w : World) (rows : Value) (hs : List Hd) (a : Int) (h : Sl w rows hs) (hb : hs.length ≤ 70368744175616) :
    CallV Try.prog 41 [rows, .int .i64 a] w fun v w' => w' = w ∧ ((isP (hs.length : Int) = false ∧ v = .int .i64 130) ∨ (isP (hs.length : Int) = true ∧ ¬ (∀ x ∈ hs, x.n = (hs.headD ⟨none, 0, 0⟩).n) ∧ v = .int .i64 6) ∨
      (isP (hs.length : Int) = true ∧ (∀ x ∈ hs, x.n = (hs.headD ⟨none, 0, 0⟩).n) ∧ isC a hs.length hs.length = false ∧ v = .int .i64 140) ∨ (isP (hs.length : Int) = true ∧ (∀ x ∈ hs, x.n = (hs.headD ⟨none, 0, 0⟩).n) ∧ isC a hs.length hs.length = true ∧ v = .int .i64 0)) := by
  refine run_afft_refuses (by simp) ?_
  simp only [c_afft_refuses, WS, List.getElem_cons_zero, List.getElem_cons_succ, Option.isNone_some, Option.isNone_none, List.getD_cons_zero, List.getD_cons_succ, I.at, atL, atO, atP, evp, evs, retV, ↓reduceIte, Nat.reduceEqDiff, reduceCtorEq, h.Xlen]
  refine X_call0 ((afft_power_spec w _).mono ?_)
  rintro _ w' ⟨rfl, rfl⟩
  cases hp : isP (hs.length : Int) with
  | false =>
    simp (maxSteps := 1000000) (disch := omega) only [WS, List.getElem_cons_zero, List.getElem_cons_succ, Option.isNone_some, Option.isNone_none, List.getD_cons_zero, List.getD_cons_succ, I.at, atL, atO, atP, evp, evs, retV, ↓reduceIte, Nat.reduceEqDiff, reduceCtorEq, AS]
    exact Or.inl trivial
  | true =>
    obtain ⟨k, hk, hlk⟩ := (isP_iff _).1 hp
    have hp0 := Nat.two_pow_pos k
    have h0 : 0 < hs.length := by omega
    have hhd : hs.headD ⟨none, 0, 0⟩ = hs[0] := by cases hs with
      | nil => simp at h0
      | cons x l => rfl
    rw [hhd]
    simp (maxSteps := 1000000) (disch := omega) only [WS, List.getElem_cons_zero, List.getElem_cons_succ, Option.isNone_some, Option.isNone_none, List.getD_cons_zero, List.getD_cons_succ, I.at, atL, atO, atP, evp, evs, retV, ↓reduceIte, Nat.reduceEqDiff, reduceCtorEq, AS, h.Xlen]
    refine loop_of (fun t w => w = w' ∧ t 0 = rows ∧ t 1 = .int .i64 a ∧ t 5 = .int .i64 (hs.length : Int) ∧ t 13 = rows ∧ t 14 = .int .i64 (hs.length : Int) ∧ ∃ i : Nat, t 15 = .int .i64 (i : Int) ∧ i ≤ hs.length ∧ ∀ x ∈ hs.take i, x.n = hs[0].n) (fun t _ => hs.length - (toI (t 15)).toNat)
      ⟨rfl, by simp only [WS, List.getElem_cons_zero, List.getElem_cons_succ, Option.isNone_some, Option.isNone_none, List.getD_cons_zero, List.getD_cons_succ, I.at, atL, atO, atP, evp, evs, retV, ↓reduceIte, Nat.reduceEqDiff, reduceCtorEq], by simp only [WS, List.getElem_cons_zero, List.getElem_cons_succ, Option.isNone_some, Option.isNone_none, List.getD_cons_zero, List.getD_cons_succ, I.at, atL, atO, atP, evp, evs, retV, ↓reduceIte, Nat.reduceEqDiff, reduceCtorEq], by simp only [WS, List.getElem_cons_zero, List.getElem_cons_succ, Option.isNone_some, Option.isNone_none, List.getD_cons_zero, List.getD_cons_succ, I.at, atL, atO, atP, evp, evs, retV, ↓reduceIte, Nat.reduceEqDiff, reduceCtorEq], by simp only [WS, List.getElem_cons_zero, List.getElem_cons_succ, Option.isNone_some, Option.isNone_none, List.getD_cons_zero, List.getD_cons_succ, I.at, atL, atO, atP, evp, evs, retV, ↓reduceIte, Nat.reduceEqDiff, reduceCtorEq], by simp only [WS, List.getElem_cons_zero, List.getElem_cons_succ, Option.isNone_some, Option.isNone_none, List.getD_cons_zero, List.getD_cons_succ, I.at, atL, atO, atP, evp, evs, retV, ↓reduceIte, Nat.reduceEqDiff, reduceCtorEq], 0, rfl, by omega, by simp⟩ ?_
    rintro t w ⟨rfl, t0, t1, t5, t13, t14, i, t15, hi, hall⟩
    by_cases hlt : i < hs.length
    · simp (maxSteps := 1000000) (disch := omega) only [WS, List.getElem_cons_zero, List.getElem_cons_succ, Option.isNone_some, Option.isNone_none, List.getD_cons_zero, List.getD_cons_succ, I.at, atL, atO, atP, evp, evs, retV, ↓reduceIte, Nat.reduceEqDiff, reduceCtorEq, AS, t0, t1, t5, t13, t14, t15, h.Xix hlt, h.Xld hlt, h.Xix0 h0, h.Xld h0, cell_hd, X_lenS]
      by_cases hn : hs[i].n = hs[0].n
      · have d1 : decide ((hs[i].n : Int) = (hs[0].n : Int)) = true := decide_eq_true (by omega)
        simp (maxSteps := 1000000) (disch := omega) only [WS, List.getElem_cons_zero, List.getElem_cons_succ, Option.isNone_some, Option.isNone_none, List.getD_cons_zero, List.getD_cons_succ, I.at, atL, atO, atP, evp, evs, retV, ↓reduceIte, Nat.reduceEqDiff, reduceCtorEq, AS, t0, t1, t5, t13, t14, t15, d1]
        refine ⟨⟨i + 1, rfl, by omega, fun x hx => ?_⟩, by omega⟩
        rw [List.take_add_one, List.getElem?_eq_getElem hlt] at hx
        rcases List.mem_append.1 hx with h1 | h1
        · exact hall x h1
        · simp at h1; subst h1; exact hn
      · have d1 : decide ((hs[i].n : Int) = (hs[0].n : Int)) = false := decide_eq_false (by omega)
        simp (maxSteps := 1000000) (disch := omega) only [WS, List.getElem_cons_zero, List.getElem_cons_succ, Option.isNone_some, Option.isNone_none, List.getD_cons_zero, List.getD_cons_succ, I.at, atL, atO, atP, evp, evs, retV, ↓reduceIte, Nat.reduceEqDiff, reduceCtorEq, AS, t0, t1, t5, t13, t14, t15, d1]
        exact Or.inr (Or.inl fun h => hn (h _ (List.getElem_mem hlt)))
    · have hall : ∀ x ∈ hs, x.n = hs[0].n := by rw [List.take_of_length_le (by omega)] at hall; exact hall
      simp (maxSteps := 1000000) (disch := omega) only [WS, List.getElem_cons_zero, List.getElem_cons_succ, Option.isNone_some, Option.isNone_none, List.getD_cons_zero, List.getD_cons_succ, I.at, atL, atO, atP, evp, evs, retV, ↓reduceIte, Nat.reduceEqDiff, reduceCtorEq, AS, t0, t1, t5, t13, t14, t15]
      refine X_call0 ((afft_begins_spec w a hs.length hs.length (by omega)).mono ?_)
      rintro _ w' ⟨rfl, rfl⟩
      cases hc : isC a hs.length hs.length with
      | false =>
        simp (maxSteps := 1000000) (disch := omega) only [WS, List.getElem_cons_zero, List.getElem_cons_succ, Option.isNone_some, Option.isNone_none, List.getD_cons_zero, List.getD_cons_succ, I.at, atL, atO, atP, evp, evs, retV, ↓reduceIte, Nat.reduceEqDiff, reduceCtorEq, AS]
        exact Or.inr (Or.inr (Or.inl hall))
      | true =>
        simp (maxSteps := 1000000) (disch := omega) only [WS, List.getElem_cons_zero, List.getElem_cons_succ, Option.isNone_some, Option.isNone_none, List.getD_cons_zero, List.getD_cons_succ, I.at, atL, atO, atP, evp, evs, retV, ↓reduceIte, Nat.reduceEqDiff, reduceCtorEq, AS]
        exact Or.inr (Or.inr (Or.inr hall))
end Go.Proofs.Ytpmfeaajpjjfiaa.Fw
