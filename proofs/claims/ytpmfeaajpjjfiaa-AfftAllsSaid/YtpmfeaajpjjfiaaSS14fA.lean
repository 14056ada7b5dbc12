import Derived.Test.YtpmfeaajpjjfiaaProg
import Derived.Test.YtpmfeaajpjjfiaaFwTA
import Derived.Test.YtpmfeaajpjjfiaaSS14cA
set_option linter.all false
set_option linter.unusedVariables false
set_option linter.unusedSimpArgs false
set_option maxRecDepth 100000
set_option maxHeartbeats 1000000
namespace Go.Proofs.Ytpmfeaajpjjfiaa.Fw
open Go Go.Fw Go.Proofs
attribute [local irreducible] stepI
def c_afft_inverse : C := .seq (.seq (.ops [⟨0, (some 8), none, .mov (.t 1), []⟩, ⟨1, (some 9), none, .len (.t 8), []⟩, ⟨2, (some 10), none, .mov (.c (.int .i64 0)), []⟩]) (.block 0 (.loop (.seq (.ops [⟨0, (some 11), none, .bin .lss (.t 10) (.t 9), []⟩]) (.seq (.ite (.t 11) .skip (.exit 0)) (.seq (.block 1 (.seq (.ops [⟨0, (some 12), none, .mov (.t 10), []⟩, ⟨1, (some 13), none, .ixs 1 (.t 8) (.t 10), []⟩, ⟨2, (some 14), none, .ld (.t 13), []⟩, ⟨3, (some 6), none, .mov (.t 12), []⟩, ⟨4, (some 7), none, .mov (.t 14), []⟩]) (.ops [⟨0, (some 15), none, .mov (.t 2), []⟩, ⟨1, (some 16), none, .mov (.t 6), []⟩, ⟨2, (some 17), none, .ixs 1 (.t 15) (.t 16), []⟩, ⟨3, (some 18), none, .ld (.t 17), []⟩, ⟨4, (some 19), none, .mov (.t 7), []⟩, ⟨5, (some 20), none, .bin .xor (.t 18) (.t 19), []⟩, ⟨6, (some 21), none, .ixs 1 (.t 15) (.t 16), []⟩, ⟨7, none, none, .st (.t 21) (.t 20), []⟩]))) (.ops [⟨0, (some 22), none, .bin .add (.t 10) (.c (.int .i64 1)), []⟩, ⟨1, (some 10), none, .mov (.t 22), []⟩]))))))) (.ops [⟨0, (some 23), none, .mov (.t 0), []⟩, ⟨1, (some 24), none, .mov (.t 1), []⟩, ⟨2, (some 25), none, .mov (.t 2), []⟩, ⟨3, (some 26), none, .call (.c (.func (.func 51) #[] #[])) [.t 23, .t 24, .t 25], []⟩])
attribute [irreducible] c_afft_inverse
theorem run_afft_inverse {args : List Value} {w : World} {K : Value → World → Prop} (hn : args.length ≤ 27) (h : WP Try.prog c_afft_inverse (endQ [] K) (initT args) w) : CallV Try.prog 36 args w K :=
  call_of follows Try.func36 (by kernel_rfl) (by kernel_rfl) hn h
def c_afft_forward : C := .seq (.ops [⟨0, (some 8), none, .mov (.t 0), []⟩, ⟨1, (some 9), none, .mov (.t 1), []⟩, ⟨2, (some 10), none, .mov (.t 2), []⟩, ⟨3, (some 11), none, .call (.c (.func (.func 51) #[] #[])) [.t 8, .t 9, .t 10], []⟩]) (.seq (.ops [⟨0, (some 12), none, .mov (.t 1), []⟩, ⟨1, (some 13), none, .len (.t 12), []⟩, ⟨2, (some 14), none, .mov (.c (.int .i64 0)), []⟩]) (.block 0 (.loop (.seq (.ops [⟨0, (some 15), none, .bin .lss (.t 14) (.t 13), []⟩]) (.seq (.ite (.t 15) .skip (.exit 0)) (.seq (.block 1 (.seq (.ops [⟨0, (some 16), none, .mov (.t 14), []⟩, ⟨1, (some 17), none, .ixs 1 (.t 12) (.t 14), []⟩, ⟨2, (some 18), none, .ld (.t 17), []⟩, ⟨3, (some 6), none, .mov (.t 16), []⟩, ⟨4, (some 7), none, .mov (.t 18), []⟩]) (.ops [⟨0, (some 19), none, .mov (.t 2), []⟩, ⟨1, (some 20), none, .mov (.t 6), []⟩, ⟨2, (some 21), none, .ixs 1 (.t 19) (.t 20), []⟩, ⟨3, (some 22), none, .ld (.t 21), []⟩, ⟨4, (some 23), none, .mov (.t 7), []⟩, ⟨5, (some 24), none, .bin .xor (.t 22) (.t 23), []⟩, ⟨6, (some 25), none, .ixs 1 (.t 19) (.t 20), []⟩, ⟨7, none, none, .st (.t 25) (.t 24), []⟩]))) (.ops [⟨0, (some 26), none, .bin .add (.t 14) (.c (.int .i64 1)), []⟩, ⟨1, (some 14), none, .mov (.t 26), []⟩])))))))
attribute [irreducible] c_afft_forward
theorem run_afft_forward {args : List Value} {w : World} {K : Value → World → Prop} (hn : args.length ≤ 27) (h : WP Try.prog c_afft_forward (endQ [] K) (initT args) w) : CallV Try.prog 39 args w K :=
  call_of follows Try.func39 (by kernel_rfl) (by kernel_rfl) hn h
end Go.Proofs.Ytpmfeaajpjjfiaa.Fw
namespace Go.Proofs.Ytpmfeaajpjjfiaa.Fw
open Go Go.Fw
theorem afft_forward_spec {M : List (El 16) → List (El 16) → World → Prop} (c : El 16) (s1 s2 : Value) (a b : List (El 16)) (w : World) (h1 : ∀ b, Wr (fun a w => M a b w) s1) (h2 : ∀ a, Wr (fun b w => M a b w) s2) (hm : M a b w) (hl : a.length = b.length) (hb : a.length ≤ 70368744175616) :
    CallV Try.prog 39 [.int .u16 (c.v.toNat : Int), s1, s2] w fun v w' => v = .tuple #[] ∧ ∃ a' b', M a' b' w' ∧ a'.length = a.length ∧ b'.length = b.length ∧ (∀ i, (co a').c i = (co a).c i + c * (co b).c i) ∧ ∀ i, (co b').c i = (co a).c i + c * (co b).c i + (co b).c i := by
  refine run_afft_forward (by simp) ?_
  simp only [c_afft_forward, WS, List.getElem_cons_zero, List.getElem_cons_succ, Option.isNone_some, Option.isNone_none, List.getD_cons_zero, List.getD_cons_succ, I.at, atL, atO, atP, evp, evs, retV, ↓reduceIte, Nat.reduceEqDiff, reduceCtorEq]
  refine X_call0 ((afft_addTimes_spec (M := fun a w => M a b w) c s1 s2 b a w (h1 b) (fun l w h => (h2 l).sl b w h) hm (by omega) (by omega)).mono ?_)
  rintro _ w1 ⟨rfl, a', hm, ha, hca⟩
  have hs1 := (h1 b).sl a' w1 hm
  simp (maxSteps := 1000000) (disch := omega) only [WS, List.getElem_cons_zero, List.getElem_cons_succ, Option.isNone_some, Option.isNone_none, List.getD_cons_zero, List.getD_cons_succ, I.at, atL, atO, atP, evp, evs, retV, ↓reduceIte, Nat.reduceEqDiff, reduceCtorEq, AS, hs1.Xlen]
  refine loop_of (fun t w' => t 12 = s1 ∧ t 13 = .int .i64 (a'.length : Int) ∧ t 2 = s2 ∧ ∃ (k : Nat) (d : List (El 16)), t 14 = .int .i64 (k : Int) ∧ k ≤ a'.length ∧ M a' d w' ∧ d.length = b.length ∧ ∀ i, (co d).c i = if i < k then (co a').c i + (co b).c i else (co b).c i)
    (fun t _ => a'.length - (toI (t 14)).toNat) ⟨by simp only [WS, List.getElem_cons_zero, List.getElem_cons_succ, Option.isNone_some, Option.isNone_none, List.getD_cons_zero, List.getD_cons_succ, I.at, atL, atO, atP, evp, evs, retV, ↓reduceIte, Nat.reduceEqDiff, reduceCtorEq], by simp only [WS, List.getElem_cons_zero, List.getElem_cons_succ, Option.isNone_some, Option.isNone_none, List.getD_cons_zero, List.getD_cons_succ, I.at, atL, atO, atP, evp, evs, retV, ↓reduceIte, Nat.reduceEqDiff, reduceCtorEq], by simp only [WS, List.getElem_cons_zero, List.getElem_cons_succ, Option.isNone_some, Option.isNone_none, List.getD_cons_zero, List.getD_cons_succ, I.at, atL, atO, atP, evp, evs, retV, ↓reduceIte, Nat.reduceEqDiff, reduceCtorEq], 0, b, rfl, by omega, hm, rfl, fun i => by rw [if_neg (by omega)]⟩ ?_
  clear hm hs1
  rintro t w2 ⟨t12, t13, t2, k, d, t14, hk, hm, hd, hco⟩
  by_cases hlt : k < a'.length
  · have hkd : k < d.length := by omega
    have hs1 := (h1 d).sl a' w2 hm
    have hs2 := (h2 a').sl d w2 hm
    simp (maxSteps := 1000000) (disch := omega) only [WS, List.getElem_cons_zero, List.getElem_cons_succ, Option.isNone_some, Option.isNone_none, List.getD_cons_zero, List.getD_cons_succ, I.at, atL, atO, atP, evp, evs, retV, ↓reduceIte, Nat.reduceEqDiff, reduceCtorEq, AS, t12, t13, t2, t14, hs1.Xix hlt, hs1.Xld hlt, hs2.Xix hkd, hs2.Xld hkd, cell_e16, xor16]
    refine (h2 a').Xst hm hkd (d[k] + a'[k]) fun w3 hm3 hg3 => ?_
    simp (maxSteps := 1000000) (disch := omega) only [WS, List.getElem_cons_zero, List.getElem_cons_succ, Option.isNone_some, Option.isNone_none, List.getD_cons_zero, List.getD_cons_succ, I.at, atL, atO, atP, evp, evs, retV, ↓reduceIte, Nat.reduceEqDiff, reduceCtorEq, AS, t12, t13, t2, t14]
    refine ⟨⟨k + 1, _, rfl, by omega, hm3, by simp [hd], fun i => ?_⟩, by omega⟩
    rw [co_set _ hkd, hco i]
    by_cases hi : i = k
    · subst hi
      have := hco i
      rw [if_neg (by omega), co_get d hkd] at this
      rw [if_pos rfl, if_pos (by omega), this, co_get a' hlt, El.add_comm]
    · rw [if_neg hi]
      by_cases hik : i < k
      · rw [if_pos hik, if_pos (by omega)]
      · rw [if_neg hik, if_neg (by omega)]
  · simp (maxSteps := 1000000) (disch := omega) only [WS, List.getElem_cons_zero, List.getElem_cons_succ, Option.isNone_some, Option.isNone_none, List.getD_cons_zero, List.getD_cons_succ, I.at, atL, atO, atP, evp, evs, retV, ↓reduceIte, Nat.reduceEqDiff, reduceCtorEq, AS, t12, t13, t2, t14]
    refine ⟨a', d, hm, ha, hd, hca, fun i => ?_⟩
    rw [hco i, ← hca i]
    by_cases hi : i < k
    · rw [if_pos hi]
    · rw [if_neg hi, co_dg a' i (by omega), co_dg b i (by omega), El.add_zero]
theorem afft_inverse_spec {M : List (El 16) → List (El 16) → World → Prop} (c : El 16) (s1 s2 : Value) (a b : List (El 16)) (w : World) (h1 : ∀ b, Wr (fun a w => M a b w) s1) (h2 : ∀ a, Wr (fun b w => M a b w) s2) (hm : M a b w) (hl : a.length = b.length) (hb : a.length ≤ 70368744175616) :
    CallV Try.prog 36 [.int .u16 (c.v.toNat : Int), s1, s2] w fun v w' => v = .tuple #[] ∧ ∃ a' b', M a' b' w' ∧ a'.length = a.length ∧ b'.length = b.length ∧ (∀ i, (co a').c i = (co a).c i + c * ((co a).c i + (co b).c i)) ∧ ∀ i, (co b').c i = (co a).c i + (co b).c i := by
  refine run_afft_inverse (by simp) ?_
  have hs1 := (h1 b).sl a w hm
  simp only [c_afft_inverse, WS, List.getElem_cons_zero, List.getElem_cons_succ, Option.isNone_some, Option.isNone_none, List.getD_cons_zero, List.getD_cons_succ, I.at, atL, atO, atP, evp, evs, retV, ↓reduceIte, Nat.reduceEqDiff, reduceCtorEq, hs1.Xlen]
  refine loop_of (fun t w' => t 0 = .int .u16 (c.v.toNat : Int) ∧ t 1 = s1 ∧ t 8 = s1 ∧ t 9 = .int .i64 (a.length : Int) ∧ t 2 = s2 ∧ ∃ (k : Nat) (d : List (El 16)), t 10 = .int .i64 (k : Int) ∧ k ≤ a.length ∧ M a d w' ∧ d.length = b.length ∧ ∀ i, (co d).c i = if i < k then (co a).c i + (co b).c i else (co b).c i)
    (fun t _ => a.length - (toI (t 10)).toNat) ⟨by simp only [WS, List.getElem_cons_zero, List.getElem_cons_succ, Option.isNone_some, Option.isNone_none, List.getD_cons_zero, List.getD_cons_succ, I.at, atL, atO, atP, evp, evs, retV, ↓reduceIte, Nat.reduceEqDiff, reduceCtorEq], by simp only [WS, List.getElem_cons_zero, List.getElem_cons_succ, Option.isNone_some, Option.isNone_none, List.getD_cons_zero, List.getD_cons_succ, I.at, atL, atO, atP, evp, evs, retV, ↓reduceIte, Nat.reduceEqDiff, reduceCtorEq], by simp only [WS, List.getElem_cons_zero, List.getElem_cons_succ, Option.isNone_some, Option.isNone_none, List.getD_cons_zero, List.getD_cons_succ, I.at, atL, atO, atP, evp, evs, retV, ↓reduceIte, Nat.reduceEqDiff, reduceCtorEq], by simp only [WS, List.getElem_cons_zero, List.getElem_cons_succ, Option.isNone_some, Option.isNone_none, List.getD_cons_zero, List.getD_cons_succ, I.at, atL, atO, atP, evp, evs, retV, ↓reduceIte, Nat.reduceEqDiff, reduceCtorEq], by simp only [WS, List.getElem_cons_zero, List.getElem_cons_succ, Option.isNone_some, Option.isNone_none, List.getD_cons_zero, List.getD_cons_succ, I.at, atL, atO, atP, evp, evs, retV, ↓reduceIte, Nat.reduceEqDiff, reduceCtorEq], 0, b, rfl, by omega, hm, rfl, fun i => by rw [if_neg (by omega)]⟩ ?_
  clear hm hs1
  rintro t w2 ⟨t0, t1, t8, t9, t2, k, d, t10, hk, hm, hd, hco⟩
  by_cases hlt : k < a.length
  · have hkd : k < d.length := by omega
    have hs1 := (h1 d).sl a w2 hm
    have hs2 := (h2 a).sl d w2 hm
    simp (maxSteps := 1000000) (disch := omega) only [WS, List.getElem_cons_zero, List.getElem_cons_succ, Option.isNone_some, Option.isNone_none, List.getD_cons_zero, List.getD_cons_succ, I.at, atL, atO, atP, evp, evs, retV, ↓reduceIte, Nat.reduceEqDiff, reduceCtorEq, AS, t0, t1, t8, t9, t2, t10, hs1.Xix hlt, hs1.Xld hlt, hs2.Xix hkd, hs2.Xld hkd, cell_e16, xor16]
    refine (h2 a).Xst hm hkd (d[k] + a[k]) fun w3 hm3 hg3 => ?_
    simp (maxSteps := 1000000) (disch := omega) only [WS, List.getElem_cons_zero, List.getElem_cons_succ, Option.isNone_some, Option.isNone_none, List.getD_cons_zero, List.getD_cons_succ, I.at, atL, atO, atP, evp, evs, retV, ↓reduceIte, Nat.reduceEqDiff, reduceCtorEq, AS, t0, t1, t8, t9, t2, t10]
    refine ⟨⟨k + 1, _, rfl, by omega, hm3, by simp [hd], fun i => ?_⟩, by omega⟩
    rw [co_set _ hkd, hco i]
    by_cases hi : i = k
    · subst hi
      have := hco i
      rw [if_neg (by omega), co_get d hkd] at this
      rw [if_pos rfl, if_pos (by omega), this, co_get a hlt, El.add_comm]
    · rw [if_neg hi]
      by_cases hik : i < k
      · rw [if_pos hik, if_pos (by omega)]
      · rw [if_neg hik, if_neg (by omega)]
  · simp (maxSteps := 1000000) (disch := omega) only [WS, List.getElem_cons_zero, List.getElem_cons_succ, Option.isNone_some, Option.isNone_none, List.getD_cons_zero, List.getD_cons_succ, I.at, atL, atO, atP, evp, evs, retV, ↓reduceIte, Nat.reduceEqDiff, reduceCtorEq, AS, t0, t1, t8, t9, t2, t10]
    refine X_call0 ((afft_addTimes_spec (M := fun a w => M a d w) c s1 s2 d a w2 (h1 d) (fun l w h => (h2 l).sl d w h) hm (by omega) (by omega)).mono ?_)
    rintro _ w3 ⟨rfl, a', hm, ha, hca⟩
    simp (maxSteps := 1000000) (disch := omega) only [WS, List.getElem_cons_zero, List.getElem_cons_succ, Option.isNone_some, Option.isNone_none, List.getD_cons_zero, List.getD_cons_succ, I.at, atL, atO, atP, evp, evs, retV, ↓reduceIte, Nat.reduceEqDiff, reduceCtorEq, AS]
    have hd2 : ∀ i, (co d).c i = (co a).c i + (co b).c i := fun i => by
      rw [hco i]
      by_cases hi : i < k
      · rw [if_pos hi]
      · rw [if_neg hi, co_dg a i (by omega), co_dg b i (by omega), El.add_zero]
    exact ⟨a', d, hm, ha, hd, fun i => by rw [hca i, hd2 i], hd2⟩
end Go.Proofs.Ytpmfeaajpjjfiaa.Fw

set_option linter.unusedVariables false
set_option linter.unusedSimpArgs false
set_option maxRecDepth 100000
set_option maxHeartbeats 1000000
namespace Go.Proofs.Ytpmfeaajpjjfiaa.Fw
open Go Go.Fw Go.Proofs
attribute [local irreducible] stepI
def c_afft_Forward : C := .seq (.ops [⟨0, (some 4), none, .mov (.c (.slice none 0 0)), []⟩, ⟨1, (some 5), none, .mov (.c (.int .i64 0)), []⟩]) (.seq (.ops [⟨0, (some 11), none, .mov (.t 0), []⟩, ⟨1, (some 12), none, .len (.t 11), []⟩, ⟨2, (some 6), none, .mov (.t 12), []⟩]) (.seq (.block 0 (.seq (.ops [⟨0, (some 14), none, .mov (.t 6), []⟩, ⟨1, (some 15), none, .call (.c (.func (.func 34) #[] #[])) [.t 14], []⟩, ⟨2, (some 16), none, .un .not (.t 15), []⟩, ⟨3, (some 13), none, .mov (.t 16), []⟩]) (.ite (.t 13) (.seq (.ops [⟨0, (some 4), none, .mov (.c (.slice none 0 0)), []⟩, ⟨1, (some 5), none, .mov (.c (.int .i64 130)), []⟩]) .ret) (.seq (.ops [⟨0, (some 18), none, .mov (.t 1), []⟩, ⟨1, (some 19), none, .mov (.t 6), []⟩, ⟨2, (some 20), none, .mov (.t 6), []⟩, ⟨3, (some 21), none, .call (.c (.func (.func 35) #[] #[])) [.t 18, .t 19, .t 20], []⟩, ⟨4, (some 22), none, .un .not (.t 21), []⟩, ⟨5, (some 17), none, .mov (.t 22), []⟩]) (.ite (.t 17) (.seq (.ops [⟨0, (some 4), none, .mov (.c (.slice none 0 0)), []⟩, ⟨1, (some 5), none, .mov (.c (.int .i64 140)), []⟩]) .ret) .skip))))) (.seq (.ops [⟨0, (some 23), none, .mov (.t 0), []⟩, ⟨1, (some 24), none, .app 31 2 [.int .u16 0] (.c (.slice none 0 0)) (.t 23), []⟩, ⟨2, (some 7), none, .mov (.t 24), []⟩]) (.seq (.seq (.ops [⟨0, (some 25), none, .mov (.t 6), []⟩, ⟨1, (some 26), none, .call (.c (.func (.func 38) #[] #[])) [.t 25], []⟩, ⟨2, (some 27), none, .mov (.t 6), []⟩, ⟨3, (some 28), none, .bin .quo (.t 27) (.c (.int .i64 2)), []⟩, ⟨4, (some 8), none, .mov (.t 26), []⟩, ⟨5, (some 9), none, .mov (.t 28), []⟩]) (.block 1 (.loop (.seq (.seq (.ops [⟨0, (some 29), none, .mov (.t 9), []⟩, ⟨1, (some 30), none, .bin .gtr (.t 29) (.c (.int .i64 0)), []⟩]) (.ite (.t 30) .skip (.exit 1))) (.seq (.block 2 (.seq (.ops [⟨0, (some 10), none, .mov (.c (.int .i64 0)), []⟩]) (.block 3 (.loop (.seq (.seq (.ops [⟨0, (some 35), none, .mov (.t 10), []⟩, ⟨1, (some 36), none, .mov (.t 6), []⟩, ⟨2, (some 37), none, .bin .lss (.t 35) (.t 36), []⟩]) (.ite (.t 37) .skip (.exit 3))) (.seq (.block 4 (.dops [⟨0, (some 42), none, .mov (.t 8), []⟩, ⟨1, (some 43), none, .mov (.t 1), []⟩, ⟨2, (some 44), none, .mov (.t 10), []⟩, ⟨3, (some 45), none, .bin .add (.t 43) (.t 44), []⟩, ⟨4, (some 46), none, .call (.c (.func (.func 37) #[] #[])) [.t 42, .t 45], []⟩, ⟨5, (some 47), none, .mov (.t 7), []⟩, ⟨6, (some 48), none, .mov (.t 10), []⟩, ⟨7, (some 49), none, .mov (.t 10), []⟩, ⟨8, (some 50), none, .mov (.t 9), []⟩, ⟨9, (some 51), none, .bin .add (.t 49) (.t 50), []⟩, ⟨10, (some 52), none, .slc 1 (.t 47) (some (.t 48)) (some (.t 51)) none, []⟩, ⟨11, (some 53), none, .mov (.t 7), []⟩, ⟨12, (some 54), none, .mov (.t 10), []⟩, ⟨13, (some 55), none, .mov (.t 9), []⟩, ⟨14, (some 56), none, .bin .add (.t 54) (.t 55), []⟩, ⟨15, (some 57), none, .mov (.t 10), []⟩, ⟨16, (some 58), none, .mov (.t 9), []⟩, ⟨17, (some 59), none, .bin .mul (.c (.int .i64 2)) (.t 58), []⟩, ⟨18, (some 60), none, .bin .add (.t 57) (.t 59), []⟩, ⟨19, (some 61), none, .slc 1 (.t 53) (some (.t 56)) (some (.t 60)) none, []⟩, ⟨20, (some 62), none, .call (.c (.func (.func 39) #[] #[])) [.t 46, .t 52, .t 61], []⟩])) (.ops [⟨0, (some 38), none, .mov (.t 10), []⟩, ⟨1, (some 39), none, .mov (.t 9), []⟩, ⟨2, (some 40), none, .bin .mul (.c (.int .i64 2)) (.t 39), []⟩, ⟨3, (some 41), none, .bin .add (.t 38) (.t 40), []⟩, ⟨4, (some 10), none, .mov (.t 41), []⟩]))))))) (.ops [⟨0, (some 31), none, .mov (.t 8), []⟩, ⟨1, (some 32), none, .bin .sub (.t 31) (.c (.int .i64 1)), []⟩, ⟨2, (some 33), none, .mov (.t 9), []⟩, ⟨3, (some 34), none, .bin .quo (.t 33) (.c (.int .i64 2)), []⟩, ⟨4, (some 8), none, .mov (.t 32), []⟩, ⟨5, (some 9), none, .mov (.t 34), []⟩])))))) (.seq (.ops [⟨0, (some 63), none, .mov (.t 7), []⟩, ⟨1, (some 4), none, .mov (.t 63), []⟩, ⟨2, (some 5), none, .mov (.c (.int .i64 0)), []⟩]) .ret)))))
attribute [irreducible] c_afft_Forward
theorem run_afft_Forward {args : List Value} {w : World} {K : Value → World → Prop} (hn : args.length ≤ 64) (h : WP Try.prog c_afft_Forward (endQ [.t 4, .t 5] K) (initT args) w) : CallV Try.prog 18 args w K :=
  call_of follows Try.func18 (by kernel_rfl) (by kernel_rfl) hn h
end Go.Proofs.Ytpmfeaajpjjfiaa.Fw
namespace Go.Proofs.Ytpmfeaajpjjfiaa.Fw
open Go Go.Fw
theorem pow_le16 {k : Nat} (h : k ≤ 16) : 2 ^ k ≤ 65536 := by have : 2 ^ k ≤ 2 ^ 16 := Nat.pow_le_pow_right (by omega) h; omega
theorem mod0_lt {o n h : Nat} (h0 : 0 < h) (ho : o % h = 0) (hn : n % h = 0) (hlt : o < n) : o + h ≤ n := by
  obtain ⟨a, rfl⟩ := Nat.dvd_of_mod_eq_zero ho
  obtain ⟨b, rfl⟩ := Nat.dvd_of_mod_eq_zero hn
  have : a < b := Nat.lt_of_mul_lt_mul_left hlt
  calc h * a + h = h * (a + 1) := (Nat.mul_succ h a).symm
    _ ≤ h * b := Nat.mul_le_mul_left h this
theorem pow_mod_half {k j : Nat} (h : j < k) : 2 ^ k % (2 * 2 ^ j) = 0 := pow_dvd_mod (n := 2 ^ k) (k := k) (Nat.mod_self _) h
/-- One pair of pieces, forth. -/
theorem bfn_piece {j A o : Nat} {f : Nat → El 16} (ho : o % (2 * 2 ^ j) = 0) (i : Nat) (h1 : o ≤ i) (h2 : i < o + 2 * 2 ^ j) :
    bfn j A f i = if i < o + 2 ^ j then f i + wel ((A + o) >>> j) * f (i + 2 ^ j) else f (i - 2 ^ j) + wel ((A + o) >>> j) * f i + f i := by
  have hm : i % (2 * 2 ^ j) = i - o := by
    obtain ⟨r, rfl⟩ : ∃ r, i = o + r := ⟨i - o, by omega⟩
    rw [Nat.add_mod, ho, Nat.zero_add, Nat.mod_mod, Nat.mod_eq_of_lt (by omega)]; omega
  unfold bfn
  rw [hm, show i - (i - o) = o by omega]
  by_cases h : i < o + 2 ^ j
  · rw [if_pos (by omega), if_pos h]
  · rw [if_neg (by omega), if_neg h]
theorem bin_piece {j A o : Nat} {f : Nat → El 16} (ho : o % (2 * 2 ^ j) = 0) (i : Nat) (h1 : o ≤ i) (h2 : i < o + 2 * 2 ^ j) :
    bin' j A f i = if i < o + 2 ^ j then f i + wel ((A + o) >>> j) * (f i + f (i + 2 ^ j)) else f (i - 2 ^ j) + f i := by
  have hm : i % (2 * 2 ^ j) = i - o := by
    obtain ⟨r, rfl⟩ : ∃ r, i = o + r := ⟨i - o, by omega⟩
    rw [Nat.add_mod, ho, Nat.zero_add, Nat.mod_mod, Nat.mod_eq_of_lt (by omega)]; omega
  unfold bin'
  rw [hm, show i - (i - o) = o by omega]
  by_cases h : i < o + 2 ^ j
  · rw [if_pos (by omega), if_pos h]
  · rw [if_neg (by omega), if_neg h]
/-- A list cut at a pair of pieces. -/
theorem cut2 (m : List (El 16)) {o h : Nat} (hl : o + 2 * h ≤ m.length) : m = m.take o ++ (m.drop o).take h ++ (m.drop (o + h)).take h ++ m.drop (o + 2 * h) := by
  have e1 : m.drop o = (m.drop o).take h ++ m.drop (o + h) := by rw [← List.drop_drop, List.take_append_drop]
  have e2 : m.drop (o + h) = (m.drop (o + h)).take h ++ m.drop (o + 2 * h) := by
    have := (List.take_append_drop h (m.drop (o + h))).symm
    rw [List.drop_drop] at this
    rw [show o + 2 * h = o + h + h by omega]; exact this
  rw [List.append_assoc, ← e2, List.append_assoc, ← e1, List.take_append_drop]
theorem afft_Forward_spec (w : World) (s : Value) (l : List (El 16)) (a : Int) (h : Sl w s l) (hb : l.length ≤ 70368744175616) :
    CallV Try.prog 18 [s, .int .i64 a] w fun v w' => RowKit.Below w.heap.size w w' ∧ ((∃ k, k ≤ 16 ∧ l.length = 2 ^ k ∧ isC a (2 ^ k) (2 ^ k) = true ∧ ∃ sv m, v = .tuple #[sv, .int .i64 0] ∧ Ow w.heap.size w' sv m ∧ m.length = l.length ∧ ∀ i, i < 2 ^ k → (co m).c i = itF a.toNat k (co l).c i) ∨
      (isP (l.length : Int) = false ∧ v = .tuple #[.slice none 0 0, .int .i64 130]) ∨ (isP (l.length : Int) = true ∧ isC a l.length l.length = false ∧ v = .tuple #[.slice none 0 0, .int .i64 140])) := by
  refine run_afft_Forward (by simp) ?_
  simp only [c_afft_Forward, WS, List.getElem_cons_zero, List.getElem_cons_succ, Option.isNone_some, Option.isNone_none, List.getD_cons_zero, List.getD_cons_succ, I.at, atL, atO, atP, evp, evs, retV, ↓reduceIte, Nat.reduceEqDiff, reduceCtorEq, h.Xlen]
  refine X_call0 ((afft_power_spec w _).mono ?_)
  rintro _ w' ⟨rfl, rfl⟩
  cases hp : isP (l.length : Int) with
  | false =>
    simp (maxSteps := 1000000) (disch := omega) only [WS, List.getElem_cons_zero, List.getElem_cons_succ, Option.isNone_some, Option.isNone_none, List.getD_cons_zero, List.getD_cons_succ, I.at, atL, atO, atP, evp, evs, retV, ↓reduceIte, Nat.reduceEqDiff, reduceCtorEq, AS]
    exact ⟨RowKit.Below.refl _ _, Or.inr (Or.inl trivial)⟩
  | true =>
    obtain ⟨k, hk, hlk⟩ := (isP_iff _).1 hp
    have hlk : l.length = 2 ^ k := by omega
    have hp0 := Nat.two_pow_pos k
    have hp16 := pow_le16 hk
    simp (maxSteps := 1000000) (disch := omega) only [WS, List.getElem_cons_zero, List.getElem_cons_succ, Option.isNone_some, Option.isNone_none, List.getD_cons_zero, List.getD_cons_succ, I.at, atL, atO, atP, evp, evs, retV, ↓reduceIte, Nat.reduceEqDiff, reduceCtorEq, AS]
    refine X_call0 ((afft_begins_spec w' a l.length l.length (by omega)).mono ?_)
    rintro _ w ⟨rfl, rfl⟩
    cases hc : isC a l.length l.length with
    | false =>
      simp (maxSteps := 1000000) (disch := omega) only [WS, List.getElem_cons_zero, List.getElem_cons_succ, Option.isNone_some, Option.isNone_none, List.getD_cons_zero, List.getD_cons_succ, I.at, atL, atO, atP, evp, evs, retV, ↓reduceIte, Nat.reduceEqDiff, reduceCtorEq, AS]
      exact ⟨RowKit.Below.refl _ _, Or.inr (Or.inr trivial)⟩
    | true =>
      have hc2 := hc
      unfold isC at hc2
      obtain ⟨c1, c2, c3, c4⟩ := of_decide_eq_true hc2
      obtain ⟨A, rfl⟩ : ∃ A : Nat, a = (A : Int) := ⟨a.toNat, by omega⟩
      rw [Int.toNat_natCast] at c4
      rw [Int.toNat_natCast]
      rw [hlk] at c3 c4
      simp (maxSteps := 1000000) (disch := omega) only [WS, List.getElem_cons_zero, List.getElem_cons_succ, Option.isNone_some, Option.isNone_none, List.getD_cons_zero, List.getD_cons_succ, I.at, atL, atO, atP, evp, evs, retV, ↓reduceIte, Nat.reduceEqDiff, reduceCtorEq, AS]
      refine (Ow.nil w.heap.size w).Xapp h (Nat.le_refl _) (by simp only [List.length_nil, maxBytes]; omega) (by simp only [List.length_nil]; omega) fun sv w1 ov hg hnear => ?_
      rw [List.nil_append] at ov
      have hB : RowKit.Below w.heap.size w w1 := (RowKit.Below.refl _ _).grown hg (Nat.le_refl _) fun b hb => by simp [Fw.blk, Value.ownBlock] at hb
      simp (maxSteps := 1000000) (disch := omega) only [WS, List.getElem_cons_zero, List.getElem_cons_succ, Option.isNone_some, Option.isNone_none, List.getD_cons_zero, List.getD_cons_succ, I.at, atL, atO, atP, evp, evs, retV, ↓reduceIte, Nat.reduceEqDiff, reduceCtorEq, AS, hlk]
      refine X_call0 ((afft_levels_spec w1 k hk).mono ?_)
      rintro _ w' ⟨rfl, rfl⟩
      have e0 : IntKind.i64.wrap (((2 ^ k : Nat) : Int).tdiv 2) = ((2 ^ k / 2 : Nat) : Int) := by rw [show (2 : Int) = ((2 : Nat) : Int) from rfl, tdiv_nat, wrap_64 _ (by omega)]
      simp (maxSteps := 1000000) (disch := omega) only [WS, List.getElem_cons_zero, List.getElem_cons_succ, Option.isNone_some, Option.isNone_none, List.getD_cons_zero, List.getD_cons_succ, I.at, atL, atO, atP, evp, evs, retV, ↓reduceIte, Nat.reduceEqDiff, reduceCtorEq, AS, X_quo, e0, show ((2 : Int) ≠ 0) = True from eq_true (by decide)]
      have hW := Wr.own (α := El 16) w.heap.size w sv
      refine loop_of (fun t w' => t 1 = .int .i64 (A : Int) ∧ t 6 = .int .i64 ((2 ^ k : Nat) : Int) ∧ t 7 = sv ∧ ∃ (r : Nat) (m : List (El 16)), t 8 = .int .i64 ((r : Int) - 1) ∧ t 9 = .int .i64 ((2 ^ r / 2 : Nat) : Int) ∧ r ≤ k ∧ (Ow w.heap.size w' sv m ∧ RowKit.Below w.heap.size w w' ∧ w.heap.size ≤ w'.heap.size) ∧ m.length = 2 ^ k ∧
          ∀ i, i < 2 ^ k → itF A r (co m).c i = itF A k (co l).c i) (fun t _ => (toI (t 9)).toNat) ⟨by simp only [WS, List.getElem_cons_zero, List.getElem_cons_succ, Option.isNone_some, Option.isNone_none, List.getD_cons_zero, List.getD_cons_succ, I.at, atL, atO, atP, evp, evs, retV, ↓reduceIte, Nat.reduceEqDiff, reduceCtorEq], by simp only [WS, List.getElem_cons_zero, List.getElem_cons_succ, Option.isNone_some, Option.isNone_none, List.getD_cons_zero, List.getD_cons_succ, I.at, atL, atO, atP, evp, evs, retV, ↓reduceIte, Nat.reduceEqDiff, reduceCtorEq], by simp only [WS, List.getElem_cons_zero, List.getElem_cons_succ, Option.isNone_some, Option.isNone_none, List.getD_cons_zero, List.getD_cons_succ, I.at, atL, atO, atP, evp, evs, retV, ↓reduceIte, Nat.reduceEqDiff, reduceCtorEq], k, l, rfl, rfl, Nat.le_refl _, ⟨ov, hB, hB.size⟩, hlk, fun i _ => rfl⟩ ?_
      clear ov hB hg hnear
      rintro t w2 ⟨t1, t6, t7, r, m, t8, t9, hr, hm, hml, hit⟩
      cases r with
      | zero =>
        simp (maxSteps := 1000000) (disch := omega) only [WS, List.getElem_cons_zero, List.getElem_cons_succ, Option.isNone_some, Option.isNone_none, List.getD_cons_zero, List.getD_cons_succ, I.at, atL, atO, atP, evp, evs, retV, ↓reduceIte, Nat.reduceEqDiff, reduceCtorEq, AS, t1, t6, t7, t8, t9, show decide ((0 : Int) < ((2 ^ 0 / 2 : Nat) : Int)) = false from rfl]
        exact ⟨hm.2.1, Or.inl ⟨k, hk, rfl, hlk ▸ hc, sv, m, rfl, hm.1, hml, hit⟩⟩
      | succ j =>
        have hj0 := Nat.two_pow_pos j
        have hj1 : 2 ^ (j + 1) / 2 = 2 ^ j := by rw [Nat.pow_succ]; omega
        have hjk : 2 ^ j < 2 ^ k := Nat.pow_lt_pow_right (by omega) (by omega)
        have hmk := pow_mod_half (show j < k by omega)
        rw [hj1] at t9
        have e8 : ((j + 1 : Nat) : Int) - 1 = (j : Int) := by omega
        rw [e8] at t8
        simp (maxSteps := 1000000) (disch := omega) only [WS, List.getElem_cons_zero, List.getElem_cons_succ, Option.isNone_some, Option.isNone_none, List.getD_cons_zero, List.getD_cons_succ, I.at, atL, atO, atP, evp, evs, retV, ↓reduceIte, Nat.reduceEqDiff, reduceCtorEq, AS, t1, t6, t7, t8, t9]
        refine loop_of (fun t w' => t 1 = .int .i64 (A : Int) ∧ t 6 = .int .i64 ((2 ^ k : Nat) : Int) ∧ t 7 = sv ∧ t 8 = .int .i64 (j : Int) ∧ t 9 = .int .i64 ((2 ^ j : Nat) : Int) ∧ ∃ (o : Nat) (m' : List (El 16)), t 10 = .int .i64 (o : Int) ∧ o ≤ 2 ^ k ∧ o % (2 * 2 ^ j) = 0 ∧ (Ow w.heap.size w' sv m' ∧ RowKit.Below w.heap.size w w' ∧ w.heap.size ≤ w'.heap.size) ∧ m'.length = 2 ^ k ∧
            ∀ i, (co m').c i = if i < o then bfn j A (co m).c i else (co m).c i) (fun t _ => 2 ^ k - (toI (t 10)).toNat) ⟨by simp only [WS, List.getElem_cons_zero, List.getElem_cons_succ, Option.isNone_some, Option.isNone_none, List.getD_cons_zero, List.getD_cons_succ, I.at, atL, atO, atP, evp, evs, retV, ↓reduceIte, Nat.reduceEqDiff, reduceCtorEq]; exact t1, by simp only [WS, List.getElem_cons_zero, List.getElem_cons_succ, Option.isNone_some, Option.isNone_none, List.getD_cons_zero, List.getD_cons_succ, I.at, atL, atO, atP, evp, evs, retV, ↓reduceIte, Nat.reduceEqDiff, reduceCtorEq]; exact t6, by simp only [WS, List.getElem_cons_zero, List.getElem_cons_succ, Option.isNone_some, Option.isNone_none, List.getD_cons_zero, List.getD_cons_succ, I.at, atL, atO, atP, evp, evs, retV, ↓reduceIte, Nat.reduceEqDiff, reduceCtorEq]; exact t7, by simp only [WS, List.getElem_cons_zero, List.getElem_cons_succ, Option.isNone_some, Option.isNone_none, List.getD_cons_zero, List.getD_cons_succ, I.at, atL, atO, atP, evp, evs, retV, ↓reduceIte, Nat.reduceEqDiff, reduceCtorEq]; exact t8, by simp only [WS, List.getElem_cons_zero, List.getElem_cons_succ, Option.isNone_some, Option.isNone_none, List.getD_cons_zero, List.getD_cons_succ, I.at, atL, atO, atP, evp, evs, retV, ↓reduceIte, Nat.reduceEqDiff, reduceCtorEq]; exact t9, 0, m, rfl, by omega, by rw [Nat.zero_mod], hm, hml, fun i => by rw [if_neg (by omega)]⟩ ?_
        clear t1 t6 t7 t8 t9 hm
        rintro t w3 ⟨t1, t6, t7, t8, t9, o, m', t10, ho, hom, hm, hml', hco⟩
        by_cases hlt : o < 2 ^ k
        · have hle := mod0_lt (by omega) hom hmk hlt
          simp (maxSteps := 1000000) (disch := omega) only [WS, List.getElem_cons_zero, List.getElem_cons_succ, Option.isNone_some, Option.isNone_none, List.getD_cons_zero, List.getD_cons_succ, I.at, atL, atO, atP, evp, evs, retV, ↓reduceIte, Nat.reduceEqDiff, reduceCtorEq, AS, t1, t6, t7, t8, t9, t10]
          refine WP_dops ?_
          simp (maxSteps := 1000000) (disch := omega) only [ES, List.mem_cons, List.not_mem_nil, implies_true, forall_const, WS, List.getElem_cons_zero, List.getElem_cons_succ, Option.isNone_some, Option.isNone_none, List.getD_cons_zero, List.getD_cons_succ, I.at, atL, atO, atP, evp, evs, retV, ↓reduceIte, Nat.reduceEqDiff, reduceCtorEq, AS, t1, t6, t7, t8, t9, t10]
          refine E_call0 ((afft_skew_spec w3.drew j (A + o) (by omega) (by omega)).mono ?_)
          rintro _ w4 ⟨rfl, hB4⟩
          have hm4 := hW.up _ _ _ (hW.drew hm) hB4
          have hsl := hW.sl _ _ hm4
          simp (maxSteps := 1000000) (disch := omega) only [ES, List.mem_cons, List.not_mem_nil, implies_true, forall_const, WS, List.getElem_cons_zero, List.getElem_cons_succ, Option.isNone_some, Option.isNone_none, List.getD_cons_zero, List.getD_cons_succ, I.at, atL, atO, atP, evp, evs, retV, ↓reduceIte, Nat.reduceEqDiff, reduceCtorEq, AS, t1, t6, t7, t8, t9, t10, hsl.Eslc (show o ≤ o + 2 ^ j by omega) (show o + 2 ^ j ≤ m'.length by omega), hsl.Eslc (show o + 2 ^ j ≤ o + 2 * 2 ^ j by omega) (show o + 2 * 2 ^ j ≤ m'.length by omega)]
          have hcut := cut2 m' (o := o) (h := 2 ^ j) (by omega)
          generalize hpre : m'.take o = pre at hcut
          generalize hx : (m'.drop o).take (2 ^ j) = x at hcut
          generalize hy : (m'.drop (o + 2 ^ j)).take (2 ^ j) = y at hcut
          generalize hpost : m'.drop (o + 2 * 2 ^ j) = post at hcut
          have lpre : pre.length = o := by rw [← hpre, List.length_take]; omega
          have lx : x.length = 2 ^ j := by rw [← hx, List.length_take, List.length_drop]; omega
          have ly : y.length = 2 ^ j := by rw [← hy, List.length_take, List.length_drop]; omega
          obtain ⟨W1, W2⟩ := hW.win2 pre post hj0 lpre.symm
          refine E_call0 ((afft_forward_spec (M := fun a b w' => a.length = 2 ^ j ∧ b.length = 2 ^ j ∧ (Ow w.heap.size w' sv (pre ++ a ++ b ++ post) ∧ RowKit.Below w.heap.size w w' ∧ w.heap.size ≤ w'.heap.size)) (wel ((A + o) >>> j)) _ _ x y w4 W1 W2 ⟨lx, ly, hcut ▸ hm4⟩ (by omega) (by omega)).mono ?_)
          rintro _ w5 ⟨rfl, x', y', ⟨lx', ly', hm5⟩, -, -, hx', hy'⟩
          simp (maxSteps := 1000000) (disch := omega) only [ES, List.mem_cons, List.not_mem_nil, implies_true, forall_const, WS, List.getElem_cons_zero, List.getElem_cons_succ, Option.isNone_some, Option.isNone_none, List.getD_cons_zero, List.getD_cons_succ, I.at, atL, atO, atP, evp, evs, retV, ↓reduceIte, Nat.reduceEqDiff, reduceCtorEq, AS, t1, t6, t7, t8, t9, t10]
          have hxi : ∀ i, i < 2 ^ j → (co x).c i = (co m').c (o + i) := fun i hi => by rw [← hx, co_takeL, if_pos hi, co_drop]
          have hyi : ∀ i, i < 2 ^ j → (co y).c i = (co m').c (o + 2 ^ j + i) := fun i hi => by rw [← hy, co_takeL, if_pos hi, co_drop]
          have hlen5 : (pre ++ x' ++ y' ++ post).length = 2 ^ k := by
            have h1 : (pre ++ x ++ y ++ post).length = 2 ^ k := by rw [← hcut, hml']
            simp only [List.length_append] at h1 ⊢; omega
          refine ⟨⟨o + 2 * 2 ^ j, _, rfl, by omega, by rw [Nat.add_mod, hom, Nat.zero_add, Nat.mod_self, Nat.zero_mod], hm5, hlen5, fun i => ?_⟩, by omega⟩
          have hold := hco
          by_cases hi1 : i < o
          · rw [if_pos (by omega), co_app, if_pos (by simp only [List.length_append]; omega), co_app, if_pos (by simp only [List.length_append]; omega), co_app, if_pos (by omega), ← hpre, co_takeL, if_pos hi1, hco i, if_pos hi1]
          · by_cases hi2 : i < o + 2 * 2 ^ j
            · rw [if_pos hi2, bfn_piece hom i (by omega) hi2]
              by_cases hi3 : i < o + 2 ^ j
              · rw [if_pos hi3, co_app, if_pos (by simp only [List.length_append]; omega), co_app, if_pos (by simp only [List.length_append]; omega), co_app, if_neg (by omega), hx', hxi _ (by omega), hyi _ (by omega), hco, hco, if_neg (by omega), if_neg (by omega), lpre, show o + (i - o) = i by omega, show o + 2 ^ j + (i - o) = i + 2 ^ j by omega]
              · rw [if_neg hi3, co_app, if_pos (by simp only [List.length_append]; omega), co_app, if_neg (by simp only [List.length_append]; omega), hy', hxi _ (by simp only [List.length_append]; omega), hyi _ (by simp only [List.length_append]; omega), hco, hco, if_neg (by simp only [List.length_append]; omega), if_neg (by simp only [List.length_append]; omega)]
                simp only [List.length_append, lpre, lx']
                rw [show o + (i - (o + 2 ^ j)) = i - 2 ^ j by omega, show o + 2 ^ j + (i - (o + 2 ^ j)) = i by omega]
            · rw [if_neg hi2, co_app, if_neg (by simp only [List.length_append]; omega), ← hpost, co_drop, hco, if_neg (by simp only [List.length_append]; omega)]
              simp only [List.length_append, lpre, lx', ly']
              rw [show o + 2 * 2 ^ j + (i - (o + 2 ^ j + 2 ^ j)) = i by omega]
        · obtain rfl : o = 2 ^ k := by omega
          have e2 : IntKind.i64.wrap (((2 ^ j : Nat) : Int).tdiv 2) = ((2 ^ j / 2 : Nat) : Int) := by rw [show (2 : Int) = ((2 : Nat) : Int) from rfl, tdiv_nat, wrap_64 _ (by omega)]
          have e1 : IntKind.i64.wrap ((j : Int) - 1) = (j : Int) - 1 := wrap_id (by omega) (by omega)
          simp (maxSteps := 1000000) (disch := omega) only [WS, List.getElem_cons_zero, List.getElem_cons_succ, Option.isNone_some, Option.isNone_none, List.getD_cons_zero, List.getD_cons_succ, I.at, atL, atO, atP, evp, evs, retV, ↓reduceIte, Nat.reduceEqDiff, reduceCtorEq, decide_eq_false, t1, t6, t7, t8, t9, t10, X_quo, e1, e2, show ((2 : Int) ≠ 0) = True from eq_true (by decide), toI_int]
          refine ⟨⟨j, m', rfl, rfl, by omega, hm, hml', fun i hi => ?_⟩, by omega⟩
          rw [← hit i hi]
          exact itF_loc (n := 2 ^ k) (Nat.mod_eq_zero_of_dvd (Nat.pow_dvd_pow 2 (show j ≤ k by omega))) (fun i hi => by rw [hco i, if_pos hi]) i hi
end Go.Proofs.Ytpmfeaajpjjfiaa.Fw

set_option linter.unusedVariables false
set_option linter.unusedSimpArgs false
set_option maxRecDepth 100000
set_option maxHeartbeats 1000000
namespace Go.Proofs.Ytpmfeaajpjjfiaa.Fw
open Go Go.Fw Go.Proofs
attribute [local irreducible] stepI
def c_afft_Inverse : C := .seq (.ops [⟨0, (some 4), none, .mov (.c (.slice none 0 0)), []⟩, ⟨1, (some 5), none, .mov (.c (.int .i64 0)), []⟩]) (.seq (.ops [⟨0, (some 11), none, .mov (.t 0), []⟩, ⟨1, (some 12), none, .len (.t 11), []⟩, ⟨2, (some 6), none, .mov (.t 12), []⟩]) (.seq (.block 0 (.seq (.ops [⟨0, (some 14), none, .mov (.t 6), []⟩, ⟨1, (some 15), none, .call (.c (.func (.func 34) #[] #[])) [.t 14], []⟩, ⟨2, (some 16), none, .un .not (.t 15), []⟩, ⟨3, (some 13), none, .mov (.t 16), []⟩]) (.ite (.t 13) (.seq (.ops [⟨0, (some 4), none, .mov (.c (.slice none 0 0)), []⟩, ⟨1, (some 5), none, .mov (.c (.int .i64 130)), []⟩]) .ret) (.seq (.ops [⟨0, (some 18), none, .mov (.t 1), []⟩, ⟨1, (some 19), none, .mov (.t 6), []⟩, ⟨2, (some 20), none, .mov (.t 6), []⟩, ⟨3, (some 21), none, .call (.c (.func (.func 35) #[] #[])) [.t 18, .t 19, .t 20], []⟩, ⟨4, (some 22), none, .un .not (.t 21), []⟩, ⟨5, (some 17), none, .mov (.t 22), []⟩]) (.ite (.t 17) (.seq (.ops [⟨0, (some 4), none, .mov (.c (.slice none 0 0)), []⟩, ⟨1, (some 5), none, .mov (.c (.int .i64 140)), []⟩]) .ret) .skip))))) (.seq (.ops [⟨0, (some 23), none, .mov (.t 0), []⟩, ⟨1, (some 24), none, .app 31 2 [.int .u16 0] (.c (.slice none 0 0)) (.t 23), []⟩, ⟨2, (some 7), none, .mov (.t 24), []⟩]) (.seq (.seq (.ops [⟨0, (some 8), none, .mov (.c (.int .i64 0)), []⟩, ⟨1, (some 9), none, .mov (.c (.int .i64 1)), []⟩]) (.block 1 (.loop (.seq (.seq (.ops [⟨0, (some 25), none, .mov (.t 9), []⟩, ⟨1, (some 26), none, .mov (.t 6), []⟩, ⟨2, (some 27), none, .bin .lss (.t 25) (.t 26), []⟩]) (.ite (.t 27) .skip (.exit 1))) (.seq (.block 2 (.seq (.ops [⟨0, (some 10), none, .mov (.c (.int .i64 0)), []⟩]) (.block 3 (.loop (.seq (.seq (.ops [⟨0, (some 32), none, .mov (.t 10), []⟩, ⟨1, (some 33), none, .mov (.t 6), []⟩, ⟨2, (some 34), none, .bin .lss (.t 32) (.t 33), []⟩]) (.ite (.t 34) .skip (.exit 3))) (.seq (.block 4 (.dops [⟨0, (some 39), none, .mov (.t 8), []⟩, ⟨1, (some 40), none, .mov (.t 1), []⟩, ⟨2, (some 41), none, .mov (.t 10), []⟩, ⟨3, (some 42), none, .bin .add (.t 40) (.t 41), []⟩, ⟨4, (some 43), none, .call (.c (.func (.func 37) #[] #[])) [.t 39, .t 42], []⟩, ⟨5, (some 44), none, .mov (.t 7), []⟩, ⟨6, (some 45), none, .mov (.t 10), []⟩, ⟨7, (some 46), none, .mov (.t 10), []⟩, ⟨8, (some 47), none, .mov (.t 9), []⟩, ⟨9, (some 48), none, .bin .add (.t 46) (.t 47), []⟩, ⟨10, (some 49), none, .slc 1 (.t 44) (some (.t 45)) (some (.t 48)) none, []⟩, ⟨11, (some 50), none, .mov (.t 7), []⟩, ⟨12, (some 51), none, .mov (.t 10), []⟩, ⟨13, (some 52), none, .mov (.t 9), []⟩, ⟨14, (some 53), none, .bin .add (.t 51) (.t 52), []⟩, ⟨15, (some 54), none, .mov (.t 10), []⟩, ⟨16, (some 55), none, .mov (.t 9), []⟩, ⟨17, (some 56), none, .bin .mul (.c (.int .i64 2)) (.t 55), []⟩, ⟨18, (some 57), none, .bin .add (.t 54) (.t 56), []⟩, ⟨19, (some 58), none, .slc 1 (.t 50) (some (.t 53)) (some (.t 57)) none, []⟩, ⟨20, (some 59), none, .call (.c (.func (.func 36) #[] #[])) [.t 43, .t 49, .t 58], []⟩])) (.ops [⟨0, (some 35), none, .mov (.t 10), []⟩, ⟨1, (some 36), none, .mov (.t 9), []⟩, ⟨2, (some 37), none, .bin .mul (.c (.int .i64 2)) (.t 36), []⟩, ⟨3, (some 38), none, .bin .add (.t 35) (.t 37), []⟩, ⟨4, (some 10), none, .mov (.t 38), []⟩]))))))) (.ops [⟨0, (some 28), none, .mov (.t 8), []⟩, ⟨1, (some 29), none, .bin .add (.t 28) (.c (.int .i64 1)), []⟩, ⟨2, (some 30), none, .mov (.t 9), []⟩, ⟨3, (some 31), none, .bin .mul (.c (.int .i64 2)) (.t 30), []⟩, ⟨4, (some 8), none, .mov (.t 29), []⟩, ⟨5, (some 9), none, .mov (.t 31), []⟩])))))) (.seq (.ops [⟨0, (some 60), none, .mov (.t 7), []⟩, ⟨1, (some 4), none, .mov (.t 60), []⟩, ⟨2, (some 5), none, .mov (.c (.int .i64 0)), []⟩]) .ret)))))
attribute [irreducible] c_afft_Inverse
theorem run_afft_Inverse {args : List Value} {w : World} {K : Value → World → Prop} (hn : args.length ≤ 61) (h : WP Try.prog c_afft_Inverse (endQ [.t 4, .t 5] K) (initT args) w) : CallV Try.prog 17 args w K :=
  call_of follows Try.func17 (by kernel_rfl) (by kernel_rfl) hn h
end Go.Proofs.Ytpmfeaajpjjfiaa.Fw
namespace Go.Proofs.Ytpmfeaajpjjfiaa.Fw
open Go Go.Fw
theorem afft_Inverse_spec (w : World) (s : Value) (l : List (El 16)) (a : Int) (h : Sl w s l) (hb : l.length ≤ 70368744175616) :
    CallV Try.prog 17 [s, .int .i64 a] w fun v w' => RowKit.Below w.heap.size w w' ∧ ((∃ k, k ≤ 16 ∧ l.length = 2 ^ k ∧ isC a (2 ^ k) (2 ^ k) = true ∧ ∃ sv m, v = .tuple #[sv, .int .i64 0] ∧ Ow w.heap.size w' sv m ∧ m.length = l.length ∧ ∀ i, i < 2 ^ k → (co m).c i = itI a.toNat k (co l).c i) ∨
      (isP (l.length : Int) = false ∧ v = .tuple #[.slice none 0 0, .int .i64 130]) ∨ (isP (l.length : Int) = true ∧ isC a l.length l.length = false ∧ v = .tuple #[.slice none 0 0, .int .i64 140])) := by
  refine run_afft_Inverse (by simp) ?_
  simp only [c_afft_Inverse, WS, List.getElem_cons_zero, List.getElem_cons_succ, Option.isNone_some, Option.isNone_none, List.getD_cons_zero, List.getD_cons_succ, I.at, atL, atO, atP, evp, evs, retV, ↓reduceIte, Nat.reduceEqDiff, reduceCtorEq, h.Xlen]
  refine X_call0 ((afft_power_spec w _).mono ?_)
  rintro _ w' ⟨rfl, rfl⟩
  cases hp : isP (l.length : Int) with
  | false =>
    simp (maxSteps := 1000000) (disch := omega) only [WS, List.getElem_cons_zero, List.getElem_cons_succ, Option.isNone_some, Option.isNone_none, List.getD_cons_zero, List.getD_cons_succ, I.at, atL, atO, atP, evp, evs, retV, ↓reduceIte, Nat.reduceEqDiff, reduceCtorEq, AS]
    exact ⟨RowKit.Below.refl _ _, Or.inr (Or.inl trivial)⟩
  | true =>
    obtain ⟨k, hk, hlk⟩ := (isP_iff _).1 hp
    have hlk : l.length = 2 ^ k := by omega
    have hp0 := Nat.two_pow_pos k
    have hp16 := pow_le16 hk
    simp (maxSteps := 1000000) (disch := omega) only [WS, List.getElem_cons_zero, List.getElem_cons_succ, Option.isNone_some, Option.isNone_none, List.getD_cons_zero, List.getD_cons_succ, I.at, atL, atO, atP, evp, evs, retV, ↓reduceIte, Nat.reduceEqDiff, reduceCtorEq, AS]
    refine X_call0 ((afft_begins_spec w' a l.length l.length (by omega)).mono ?_)
    rintro _ w ⟨rfl, rfl⟩
    cases hc : isC a l.length l.length with
    | false =>
      simp (maxSteps := 1000000) (disch := omega) only [WS, List.getElem_cons_zero, List.getElem_cons_succ, Option.isNone_some, Option.isNone_none, List.getD_cons_zero, List.getD_cons_succ, I.at, atL, atO, atP, evp, evs, retV, ↓reduceIte, Nat.reduceEqDiff, reduceCtorEq, AS]
      exact ⟨RowKit.Below.refl _ _, Or.inr (Or.inr trivial)⟩
    | true =>
      have hc2 := hc
      unfold isC at hc2
      obtain ⟨c1, c2, c3, c4⟩ := of_decide_eq_true hc2
      obtain ⟨A, rfl⟩ : ∃ A : Nat, a = (A : Int) := ⟨a.toNat, by omega⟩
      rw [Int.toNat_natCast] at c4
      rw [Int.toNat_natCast]
      rw [hlk] at c3 c4
      simp (maxSteps := 1000000) (disch := omega) only [WS, List.getElem_cons_zero, List.getElem_cons_succ, Option.isNone_some, Option.isNone_none, List.getD_cons_zero, List.getD_cons_succ, I.at, atL, atO, atP, evp, evs, retV, ↓reduceIte, Nat.reduceEqDiff, reduceCtorEq, AS]
      refine (Ow.nil w.heap.size w).Xapp h (Nat.le_refl _) (by simp only [List.length_nil, maxBytes]; omega) (by simp only [List.length_nil]; omega) fun sv w1 ov hg hnear => ?_
      rw [List.nil_append] at ov
      have hB : RowKit.Below w.heap.size w w1 := (RowKit.Below.refl _ _).grown hg (Nat.le_refl _) fun b hb => by simp [Fw.blk, Value.ownBlock] at hb
      simp (maxSteps := 1000000) (disch := omega) only [WS, List.getElem_cons_zero, List.getElem_cons_succ, Option.isNone_some, Option.isNone_none, List.getD_cons_zero, List.getD_cons_succ, I.at, atL, atO, atP, evp, evs, retV, ↓reduceIte, Nat.reduceEqDiff, reduceCtorEq, AS, hlk]
      have hW := Wr.own (α := El 16) w.heap.size w sv
      refine loop_of (fun t w' => t 1 = .int .i64 (A : Int) ∧ t 6 = .int .i64 ((2 ^ k : Nat) : Int) ∧ t 7 = sv ∧ ∃ (j : Nat) (m : List (El 16)), t 8 = .int .i64 (j : Int) ∧ t 9 = .int .i64 ((2 ^ j : Nat) : Int) ∧ j ≤ k ∧ (Ow w.heap.size w' sv m ∧ RowKit.Below w.heap.size w w' ∧ w.heap.size ≤ w'.heap.size) ∧ m.length = 2 ^ k ∧
          ∀ i, i < 2 ^ k → (co m).c i = itI A j (co l).c i) (fun t _ => 2 ^ k - (toI (t 9)).toNat) ⟨by simp only [WS, List.getElem_cons_zero, List.getElem_cons_succ, Option.isNone_some, Option.isNone_none, List.getD_cons_zero, List.getD_cons_succ, I.at, atL, atO, atP, evp, evs, retV, ↓reduceIte, Nat.reduceEqDiff, reduceCtorEq], by simp only [WS, List.getElem_cons_zero, List.getElem_cons_succ, Option.isNone_some, Option.isNone_none, List.getD_cons_zero, List.getD_cons_succ, I.at, atL, atO, atP, evp, evs, retV, ↓reduceIte, Nat.reduceEqDiff, reduceCtorEq], by simp only [WS, List.getElem_cons_zero, List.getElem_cons_succ, Option.isNone_some, Option.isNone_none, List.getD_cons_zero, List.getD_cons_succ, I.at, atL, atO, atP, evp, evs, retV, ↓reduceIte, Nat.reduceEqDiff, reduceCtorEq], 0, l, by simp only [WS, List.getElem_cons_zero, List.getElem_cons_succ, Option.isNone_some, Option.isNone_none, List.getD_cons_zero, List.getD_cons_succ, I.at, atL, atO, atP, evp, evs, retV, ↓reduceIte, Nat.reduceEqDiff, reduceCtorEq]; rfl, by simp only [WS, List.getElem_cons_zero, List.getElem_cons_succ, Option.isNone_some, Option.isNone_none, List.getD_cons_zero, List.getD_cons_succ, I.at, atL, atO, atP, evp, evs, retV, ↓reduceIte, Nat.reduceEqDiff, reduceCtorEq]; rfl, by omega, ⟨ov, hB, hB.size⟩, hlk, fun i _ => rfl⟩ ?_
      clear ov hB hg hnear
      rintro t w2 ⟨t1, t6, t7, j, m, t8, t9, hj, hm, hml, hit⟩
      by_cases hjk' : j = k
      · subst hjk'
        simp (maxSteps := 1000000) (disch := omega) only [WS, List.getElem_cons_zero, List.getElem_cons_succ, Option.isNone_some, Option.isNone_none, List.getD_cons_zero, List.getD_cons_succ, I.at, atL, atO, atP, evp, evs, retV, ↓reduceIte, Nat.reduceEqDiff, reduceCtorEq, AS, t1, t6, t7, t8, t9]
        exact ⟨hm.2.1, Or.inl ⟨j, hk, rfl, hlk ▸ hc, sv, m, rfl, hm.1, hml, hit⟩⟩
      · have hj0 := Nat.two_pow_pos j
        have hjk : 2 ^ j < 2 ^ k := Nat.pow_lt_pow_right (by omega) (by omega)
        have hmk := pow_mod_half (show j < k by omega)
        simp (maxSteps := 1000000) (disch := omega) only [WS, List.getElem_cons_zero, List.getElem_cons_succ, Option.isNone_some, Option.isNone_none, List.getD_cons_zero, List.getD_cons_succ, I.at, atL, atO, atP, evp, evs, retV, ↓reduceIte, Nat.reduceEqDiff, reduceCtorEq, AS, t1, t6, t7, t8, t9]
        refine loop_of (fun t w' => t 1 = .int .i64 (A : Int) ∧ t 6 = .int .i64 ((2 ^ k : Nat) : Int) ∧ t 7 = sv ∧ t 8 = .int .i64 (j : Int) ∧ t 9 = .int .i64 ((2 ^ j : Nat) : Int) ∧ ∃ (o : Nat) (m' : List (El 16)), t 10 = .int .i64 (o : Int) ∧ o ≤ 2 ^ k ∧ o % (2 * 2 ^ j) = 0 ∧ (Ow w.heap.size w' sv m' ∧ RowKit.Below w.heap.size w w' ∧ w.heap.size ≤ w'.heap.size) ∧ m'.length = 2 ^ k ∧
            ∀ i, (co m').c i = if i < o then bin' j A (co m).c i else (co m).c i) (fun t _ => 2 ^ k - (toI (t 10)).toNat) ⟨by simp only [WS, List.getElem_cons_zero, List.getElem_cons_succ, Option.isNone_some, Option.isNone_none, List.getD_cons_zero, List.getD_cons_succ, I.at, atL, atO, atP, evp, evs, retV, ↓reduceIte, Nat.reduceEqDiff, reduceCtorEq]; exact t1, by simp only [WS, List.getElem_cons_zero, List.getElem_cons_succ, Option.isNone_some, Option.isNone_none, List.getD_cons_zero, List.getD_cons_succ, I.at, atL, atO, atP, evp, evs, retV, ↓reduceIte, Nat.reduceEqDiff, reduceCtorEq]; exact t6, by simp only [WS, List.getElem_cons_zero, List.getElem_cons_succ, Option.isNone_some, Option.isNone_none, List.getD_cons_zero, List.getD_cons_succ, I.at, atL, atO, atP, evp, evs, retV, ↓reduceIte, Nat.reduceEqDiff, reduceCtorEq]; exact t7, by simp only [WS, List.getElem_cons_zero, List.getElem_cons_succ, Option.isNone_some, Option.isNone_none, List.getD_cons_zero, List.getD_cons_succ, I.at, atL, atO, atP, evp, evs, retV, ↓reduceIte, Nat.reduceEqDiff, reduceCtorEq]; exact t8, by simp only [WS, List.getElem_cons_zero, List.getElem_cons_succ, Option.isNone_some, Option.isNone_none, List.getD_cons_zero, List.getD_cons_succ, I.at, atL, atO, atP, evp, evs, retV, ↓reduceIte, Nat.reduceEqDiff, reduceCtorEq]; exact t9, 0, m, rfl, by omega, by rw [Nat.zero_mod], hm, hml, fun i => by rw [if_neg (by omega)]⟩ ?_
        clear t1 t6 t7 t8 t9 hm
        rintro t w3 ⟨t1, t6, t7, t8, t9, o, m', t10, ho, hom, hm, hml', hco⟩
        by_cases hlt : o < 2 ^ k
        · have hle := mod0_lt (by omega) hom hmk hlt
          simp (maxSteps := 1000000) (disch := omega) only [WS, List.getElem_cons_zero, List.getElem_cons_succ, Option.isNone_some, Option.isNone_none, List.getD_cons_zero, List.getD_cons_succ, I.at, atL, atO, atP, evp, evs, retV, ↓reduceIte, Nat.reduceEqDiff, reduceCtorEq, AS, t1, t6, t7, t8, t9, t10]
          refine WP_dops ?_
          simp (maxSteps := 1000000) (disch := omega) only [ES, List.mem_cons, List.not_mem_nil, implies_true, forall_const, WS, List.getElem_cons_zero, List.getElem_cons_succ, Option.isNone_some, Option.isNone_none, List.getD_cons_zero, List.getD_cons_succ, I.at, atL, atO, atP, evp, evs, retV, ↓reduceIte, Nat.reduceEqDiff, reduceCtorEq, AS, t1, t6, t7, t8, t9, t10]
          refine E_call0 ((afft_skew_spec w3.drew j (A + o) (by omega) (by omega)).mono ?_)
          rintro _ w4 ⟨rfl, hB4⟩
          have hm4 := hW.up _ _ _ (hW.drew hm) hB4
          have hsl := hW.sl _ _ hm4
          simp (maxSteps := 1000000) (disch := omega) only [ES, List.mem_cons, List.not_mem_nil, implies_true, forall_const, WS, List.getElem_cons_zero, List.getElem_cons_succ, Option.isNone_some, Option.isNone_none, List.getD_cons_zero, List.getD_cons_succ, I.at, atL, atO, atP, evp, evs, retV, ↓reduceIte, Nat.reduceEqDiff, reduceCtorEq, AS, t1, t6, t7, t8, t9, t10, hsl.Eslc (show o ≤ o + 2 ^ j by omega) (show o + 2 ^ j ≤ m'.length by omega), hsl.Eslc (show o + 2 ^ j ≤ o + 2 * 2 ^ j by omega) (show o + 2 * 2 ^ j ≤ m'.length by omega)]
          have hcut := cut2 m' (o := o) (h := 2 ^ j) (by omega)
          generalize hpre : m'.take o = pre at hcut
          generalize hx : (m'.drop o).take (2 ^ j) = x at hcut
          generalize hy : (m'.drop (o + 2 ^ j)).take (2 ^ j) = y at hcut
          generalize hpost : m'.drop (o + 2 * 2 ^ j) = post at hcut
          have lpre : pre.length = o := by rw [← hpre, List.length_take]; omega
          have lx : x.length = 2 ^ j := by rw [← hx, List.length_take, List.length_drop]; omega
          have ly : y.length = 2 ^ j := by rw [← hy, List.length_take, List.length_drop]; omega
          obtain ⟨W1, W2⟩ := hW.win2 pre post hj0 lpre.symm
          refine E_call0 ((afft_inverse_spec (M := fun a b w' => a.length = 2 ^ j ∧ b.length = 2 ^ j ∧ (Ow w.heap.size w' sv (pre ++ a ++ b ++ post) ∧ RowKit.Below w.heap.size w w' ∧ w.heap.size ≤ w'.heap.size)) (wel ((A + o) >>> j)) _ _ x y w4 W1 W2 ⟨lx, ly, hcut ▸ hm4⟩ (by omega) (by omega)).mono ?_)
          rintro _ w5 ⟨rfl, x', y', ⟨lx', ly', hm5⟩, -, -, hx', hy'⟩
          simp (maxSteps := 1000000) (disch := omega) only [ES, List.mem_cons, List.not_mem_nil, implies_true, forall_const, WS, List.getElem_cons_zero, List.getElem_cons_succ, Option.isNone_some, Option.isNone_none, List.getD_cons_zero, List.getD_cons_succ, I.at, atL, atO, atP, evp, evs, retV, ↓reduceIte, Nat.reduceEqDiff, reduceCtorEq, AS, t1, t6, t7, t8, t9, t10]
          have hxi : ∀ i, i < 2 ^ j → (co x).c i = (co m').c (o + i) := fun i hi => by rw [← hx, co_takeL, if_pos hi, co_drop]
          have hyi : ∀ i, i < 2 ^ j → (co y).c i = (co m').c (o + 2 ^ j + i) := fun i hi => by rw [← hy, co_takeL, if_pos hi, co_drop]
          have hlen5 : (pre ++ x' ++ y' ++ post).length = 2 ^ k := by
            have h1 : (pre ++ x ++ y ++ post).length = 2 ^ k := by rw [← hcut, hml']
            simp only [List.length_append] at h1 ⊢; omega
          refine ⟨⟨o + 2 * 2 ^ j, _, rfl, by omega, by rw [Nat.add_mod, hom, Nat.zero_add, Nat.mod_self, Nat.zero_mod], hm5, hlen5, fun i => ?_⟩, by omega⟩
          have hold := hco
          by_cases hi1 : i < o
          · rw [if_pos (by omega), co_app, if_pos (by simp only [List.length_append]; omega), co_app, if_pos (by simp only [List.length_append]; omega), co_app, if_pos (by omega), ← hpre, co_takeL, if_pos hi1, hco i, if_pos hi1]
          · by_cases hi2 : i < o + 2 * 2 ^ j
            · rw [if_pos hi2, bin_piece hom i (by omega) hi2]
              by_cases hi3 : i < o + 2 ^ j
              · rw [if_pos hi3, co_app, if_pos (by simp only [List.length_append]; omega), co_app, if_pos (by simp only [List.length_append]; omega), co_app, if_neg (by omega), hx', hxi _ (by omega), hyi _ (by omega), hco, hco, if_neg (by omega), if_neg (by omega), lpre, show o + (i - o) = i by omega, show o + 2 ^ j + (i - o) = i + 2 ^ j by omega]
              · rw [if_neg hi3, co_app, if_pos (by simp only [List.length_append]; omega), co_app, if_neg (by simp only [List.length_append]; omega), hy', hxi _ (by simp only [List.length_append]; omega), hyi _ (by simp only [List.length_append]; omega), hco, hco, if_neg (by simp only [List.length_append]; omega), if_neg (by simp only [List.length_append]; omega)]
                simp only [List.length_append, lpre, lx']
                rw [show o + (i - (o + 2 ^ j)) = i - 2 ^ j by omega, show o + 2 ^ j + (i - (o + 2 ^ j)) = i by omega]
            · rw [if_neg hi2, co_app, if_neg (by simp only [List.length_append]; omega), ← hpost, co_drop, hco, if_neg (by simp only [List.length_append]; omega)]
              simp only [List.length_append, lpre, lx', ly']
              rw [show o + 2 * 2 ^ j + (i - (o + 2 ^ j + 2 ^ j)) = i by omega]
        · obtain rfl : o = 2 ^ k := by omega
          have h2k : 2 ^ (j + 1) = 2 * 2 ^ j := by rw [Nat.pow_succ, Nat.mul_comm]
          simp (maxSteps := 1000000) (disch := omega) only [WS, List.getElem_cons_zero, List.getElem_cons_succ, Option.isNone_some, Option.isNone_none, List.getD_cons_zero, List.getD_cons_succ, I.at, atL, atO, atP, evp, evs, retV, ↓reduceIte, Nat.reduceEqDiff, reduceCtorEq, AS, t1, t6, t7, t8, t9, t10]
          refine ⟨⟨j + 1, m', rfl, by rw [h2k], by omega, hm, hml', fun i hi => ?_⟩, by simp only [Int.toNat_natCast]; omega⟩
          rw [hco i, if_pos hi]
          exact bin_loc (n := 2 ^ k) hmk (fun i hi => hit i hi) i hi
end Go.Proofs.Ytpmfeaajpjjfiaa.Fw
