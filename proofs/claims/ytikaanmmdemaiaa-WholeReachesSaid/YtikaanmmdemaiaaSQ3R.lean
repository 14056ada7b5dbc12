import Derived.Test.YtikaanmmdemaiaaProg
import Derived.Test.YtikaanmmdemaiaaFwTR
import Derived.Test.YtikaanmmdemaiaaSQ2R
set_option linter.all false
set_option linter.unusedVariables false
set_option linter.unusedSimpArgs false
set_option maxRecDepth 100000
set_option maxHeartbeats 1000000
namespace Go.Proofs.Ytikaanmmdemaiaa.Fw
open Go Go.Fw Go.Proofs
attribute [local irreducible] stepI
def c_afft_inverse : C := .seq (.seq (.ops [⟨0, (some 8), none, .mov (.t 1), []⟩, ⟨1, (some 9), none, .len (.t 8), []⟩, ⟨2, (some 10), none, .mov (.c (.int .i64 0)), []⟩]) (.block 0 (.loop (.seq (.ops [⟨0, (some 11), none, .bin .lss (.t 10) (.t 9), []⟩]) (.seq (.ite (.t 11) .skip (.exit 0)) (.seq (.block 1 (.seq (.ops [⟨0, (some 12), none, .mov (.t 10), []⟩, ⟨1, (some 13), none, .ixs 1 (.t 8) (.t 10), []⟩, ⟨2, (some 14), none, .ld (.t 13), []⟩, ⟨3, (some 6), none, .mov (.t 12), []⟩, ⟨4, (some 7), none, .mov (.t 14), []⟩]) (.ops [⟨0, (some 15), none, .mov (.t 2), []⟩, ⟨1, (some 16), none, .mov (.t 6), []⟩, ⟨2, (some 17), none, .ixs 1 (.t 15) (.t 16), []⟩, ⟨3, (some 18), none, .ld (.t 17), []⟩, ⟨4, (some 19), none, .mov (.t 7), []⟩, ⟨5, (some 20), none, .bin .xor (.t 18) (.t 19), []⟩, ⟨6, (some 21), none, .ixs 1 (.t 15) (.t 16), []⟩, ⟨7, none, none, .st (.t 21) (.t 20), []⟩]))) (.ops [⟨0, (some 22), none, .bin .add (.t 10) (.c (.int .i64 1)), []⟩, ⟨1, (some 10), none, .mov (.t 22), []⟩]))))))) (.ops [⟨0, (some 23), none, .mov (.t 0), []⟩, ⟨1, (some 24), none, .mov (.t 1), []⟩, ⟨2, (some 25), none, .mov (.t 2), []⟩, ⟨3, (some 26), none, .call (.c (.func (.func 48) #[] #[])) [.t 23, .t 24, .t 25], []⟩])
attribute [irreducible] c_afft_inverse
theorem run_afft_inverse {args : List Value} {w : World} {K : Value → World → Prop} (hn : args.length ≤ 27) (h : WP Try.prog c_afft_inverse (endQ [] K) (initT args) w) : CallV Try.prog 30 args w K :=
  call_of follows Try.func30 (by kernel_rfl) (by kernel_rfl) hn h
def c_afft_forward : C := .seq (.ops [⟨0, (some 8), none, .mov (.t 0), []⟩, ⟨1, (some 9), none, .mov (.t 1), []⟩, ⟨2, (some 10), none, .mov (.t 2), []⟩, ⟨3, (some 11), none, .call (.c (.func (.func 48) #[] #[])) [.t 8, .t 9, .t 10], []⟩]) (.seq (.ops [⟨0, (some 12), none, .mov (.t 1), []⟩, ⟨1, (some 13), none, .len (.t 12), []⟩, ⟨2, (some 14), none, .mov (.c (.int .i64 0)), []⟩]) (.block 0 (.loop (.seq (.ops [⟨0, (some 15), none, .bin .lss (.t 14) (.t 13), []⟩]) (.seq (.ite (.t 15) .skip (.exit 0)) (.seq (.block 1 (.seq (.ops [⟨0, (some 16), none, .mov (.t 14), []⟩, ⟨1, (some 17), none, .ixs 1 (.t 12) (.t 14), []⟩, ⟨2, (some 18), none, .ld (.t 17), []⟩, ⟨3, (some 6), none, .mov (.t 16), []⟩, ⟨4, (some 7), none, .mov (.t 18), []⟩]) (.ops [⟨0, (some 19), none, .mov (.t 2), []⟩, ⟨1, (some 20), none, .mov (.t 6), []⟩, ⟨2, (some 21), none, .ixs 1 (.t 19) (.t 20), []⟩, ⟨3, (some 22), none, .ld (.t 21), []⟩, ⟨4, (some 23), none, .mov (.t 7), []⟩, ⟨5, (some 24), none, .bin .xor (.t 22) (.t 23), []⟩, ⟨6, (some 25), none, .ixs 1 (.t 19) (.t 20), []⟩, ⟨7, none, none, .st (.t 25) (.t 24), []⟩]))) (.ops [⟨0, (some 26), none, .bin .add (.t 14) (.c (.int .i64 1)), []⟩, ⟨1, (some 14), none, .mov (.t 26), []⟩])))))))
attribute [irreducible] c_afft_forward
theorem run_afft_forward {args : List Value} {w : World} {K : Value → World → Prop} (hn : args.length ≤ 27) (h : WP Try.prog c_afft_forward (endQ [] K) (initT args) w) : CallV Try.prog 33 args w K :=
  call_of follows Try.func33 (by kernel_rfl) (by kernel_rfl) hn h
end Go.Proofs.Ytikaanmmdemaiaa.Fw
namespace Go.Proofs.Ytikaanmmdemaiaa.Fw
open Go Go.Fw
theorem afft_forward_spec {M : List (El 16) → List (El 16) → World → Prop} (c : El 16) (s1 s2 : Value) (a b : List (El 16)) (w : World) (h1 : ∀ b, Wr (fun a w => M a b w) s1) (h2 : ∀ a, Wr (fun b w => M a b w) s2) (hm : M a b w) (hl : a.length = b.length) (hb : a.length ≤ 70368744175616) :
    CallV Try.prog 33 [.int .u16 (c.v.toNat : Int), s1, s2] w fun v w' => v = .tuple #[] ∧ ∃ a' b', M a' b' w' ∧ a'.length = a.length ∧ b'.length = b.length ∧ (∀ i, (co a').c i = (co a).c i + c * (co b).c i) ∧ ∀ i, (co b').c i = (co a).c i + c * (co b).c i + (co b).c i := by
  refine run_afft_forward (by simp) ?_
  simp only [c_afft_forward, WS, List.getElem_cons_zero, List.getElem_cons_succ, Option.isNone_some, Option.isNone_none, List.getD_cons_zero, List.getD_cons_succ, I.at, atL, atO, atP, evp, evs, retV, ↓reduceIte, Nat.reduceEqDiff, reduceCtorEq]
  refine X_call0 ((afft_addTimes_spec (M := fun a w => M a b w) c s1 s2 b a w (h1 b) (fun l w h => (h2 l).sl b w h) hm (by omega) (by omega)).mono ?_)
  rintro _ w1 ⟨rfl, a', hm, ha, hca⟩
  have hs1 := (h1 b).sl a' w1 hm
  simp (maxSteps := 1000000) (disch := omega) only [WS, List.getElem_cons_zero, List.getElem_cons_succ, Option.isNone_some, Option.isNone_none, List.getD_cons_zero, List.getD_cons_succ, I.at, atL, atO, atP, evp, evs, retV, ↓reduceIte, Nat.reduceEqDiff, reduceCtorEq, AS, hs1.Xlen]
  refine loop_of (fun t w' => t 12 = s1 ∧ t 13 = .int .i64 (a'.length : Int) ∧ t 2 = s2 ∧ ∃ (k : Nat) (d : List (El 16)), t 14 = .int .i64 (k : Int) ∧ k ≤ a'.length ∧ M a' d w' ∧ d.length = b.length ∧ ∀ i, (co d).c i = if i < k then (co a').c i + (co b).c i else (co b).c i)
    (fun t _ => a'.length - (toI (t 14)).toNat) ⟨by simp only [WS, List.getElem_cons_zero, List.getElem_cons_succ, Option.isNone_some, Option.isNone_none, List.getD_cons_zero, List.getD_cons_succ, I.at, atL, atO, atP, evp, evs, retV, ↓reduceIte, Nat.reduceEqDiff, reduceCtorEq], by simp only [WS, List.getElem_cons_zero, List.getElem_cons_succ, Option.isNone_some, Option.isNone_none, List.getD_cons_zero, List.getD_cons_succ, I.at, atL, atO, atP, evp, evs, retV, ↓reduceIte, Nat.reduceEqDiff, reduceCtorEq], by simp only [WS, List.getElem_cons_zero, List.getElem_cons_succ, Option.isNone_some, Option.isNone_none, List.getD_cons_zero, List.getD_cons_succ, I.at, atL, atO, atP, evp, evs, retV, ↓reduceIte, Nat.reduceEqDiff, reduceCtorEq], 0, b, rfl, by omega, hm, rfl, fun i => by rw [if_neg (by omega)]⟩ ?_
  clear hm hs1
  rintro t w2 ⟨t12, t13, t2, k, d, t14, hk, hm, hd, hco⟩
  by_cases hlt : k < a'.length
  · have hkd : k < d.length := by omega
    have hs1 := (h1 d).sl a' w2 hm
    have hs2 := (h2 a').sl d w2 hm
    simp (maxSteps := 1000000) (disch := omega) only [WS, List.getElem_cons_zero, List.getElem_cons_succ, Option.isNone_some, Option.isNone_none, List.getD_cons_zero, List.getD_cons_succ, I.at, atL, atO, atP, evp, evs, retV, ↓reduceIte, Nat.reduceEqDiff, reduceCtorEq, AS, t12, t13, t2, t14, hs1.Xix hlt, hs1.Xld hlt, hs2.Xix hkd, hs2.Xld hkd, cell_e16, xor16]
    refine (h2 a').Xst hm hkd (d[k] + a'[k]) fun w3 hm3 hg3 => ?_
    simp (maxSteps := 1000000) (disch := omega) only [WS, List.getElem_cons_zero, List.getElem_cons_succ, Option.isNone_some, Option.isNone_none, List.getD_cons_zero, List.getD_cons_succ, I.at, atL, atO, atP, evp, evs, retV, ↓reduceIte, Nat.reduceEqDiff, reduceCtorEq, AS, t12, t13, t2, t14]
    refine ⟨⟨k + 1, _, rfl, by omega, hm3, by simp [hd], fun i => ?_⟩, by omega⟩
    rw [co_set _ hkd, hco i]
    by_cases hi : i = k
    · subst hi
      have := hco i
      rw [if_neg (by omega), co_get d hkd] at this
      rw [if_pos rfl, if_pos (by omega), this, co_get a' hlt, El.add_comm]
    · rw [if_neg hi]
      by_cases hik : i < k
      · rw [if_pos hik, if_pos (by omega)]
      · rw [if_neg hik, if_neg (by omega)]
  · simp (maxSteps := 1000000) (disch := omega) only [WS, List.getElem_cons_zero, List.getElem_cons_succ, Option.isNone_some, Option.isNone_none, List.getD_cons_zero, List.getD_cons_succ, I.at, atL, atO, atP, evp, evs, retV, ↓reduceIte, Nat.reduceEqDiff, reduceCtorEq, AS, t12, t13, t2, t14]
    refine ⟨a', d, hm, ha, hd, hca, fun i => ?_⟩
    rw [hco i, ← hca i]
    by_cases hi : i < k
    · rw [if_pos hi]
    · rw [if_neg hi, co_dg a' i (by omega), co_dg b i (by omega), El.add_zero]
theorem afft_inverse_spec {M : List (El 16) → List (El 16) → World → Prop} (c : El 16) (s1 s2 : Value) (a b : List (El 16)) (w : World) (h1 : ∀ b, Wr (fun a w => M a b w) s1) (h2 : ∀ a, Wr (fun b w => M a b w) s2) (hm : M a b w) (hl : a.length = b.length) (hb : a.length ≤ 70368744175616) :
    CallV Try.prog 30 [.int .u16 (c.v.toNat : Int), s1, s2] w fun v w' => v = .tuple #[] ∧ ∃ a' b', M a' b' w' ∧ a'.length = a.length ∧ b'.length = b.length ∧ (∀ i, (co a').c i = (co a).c i + c * ((co a).c i + (co b).c i)) ∧ ∀ i, (co b').c i = (co a).c i + (co b).c i := by
  refine run_afft_inverse (by simp) ?_
  have hs1 := (h1 b).sl a w hm
  simp only [c_afft_inverse, WS, List.getElem_cons_zero, List.getElem_cons_succ, Option.isNone_some, Option.isNone_none, List.getD_cons_zero, List.getD_cons_succ, I.at, atL, atO, atP, evp, evs, retV, ↓reduceIte, Nat.reduceEqDiff, reduceCtorEq, hs1.Xlen]
  refine loop_of (fun t w' => t 0 = .int .u16 (c.v.toNat : Int) ∧ t 1 = s1 ∧ t 8 = s1 ∧ t 9 = .int .i64 (a.length : Int) ∧ t 2 = s2 ∧ ∃ (k : Nat) (d : List (El 16)), t 10 = .int .i64 (k : Int) ∧ k ≤ a.length ∧ M a d w' ∧ d.length = b.length ∧ ∀ i, (co d).c i = if i < k then (co a).c i + (co b).c i else (co b).c i)
    (fun t _ => a.length - (toI (t 10)).toNat) ⟨by simp only [WS, List.getElem_cons_zero, List.getElem_cons_succ, Option.isNone_some, Option.isNone_none, List.getD_cons_zero, List.getD_cons_succ, I.at, atL, atO, atP, evp, evs, retV, ↓reduceIte, Nat.reduceEqDiff, reduceCtorEq], by simp only [WS, List.getElem_cons_zero, List.getElem_cons_succ, Option.isNone_some, Option.isNone_none, List.getD_cons_zero, List.getD_cons_succ, I.at, atL, atO, atP, evp, evs, retV, ↓reduceIte, Nat.reduceEqDiff, reduceCtorEq], by simp only [WS, List.getElem_cons_zero, List.getElem_cons_succ, Option.isNone_some, Option.isNone_none, List.getD_cons_zero, List.getD_cons_succ, I.at, atL, atO, atP, evp, evs, retV, ↓reduceIte, Nat.reduceEqDiff, reduceCtorEq], by simp only [WS, List.getElem_cons_zero, List.getElem_cons_succ, Option.isNone_some, Option.isNone_none, List.getD_cons_zero, List.getD_cons_succ, I.at, atL, atO, atP, evp, evs, retV, ↓reduceIte, Nat.reduceEqDiff, reduceCtorEq], by simp only [WS, List.getElem_cons_zero, List.getElem_cons_succ, Option.isNone_some, Option.isNone_none, List.getD_cons_zero, List.getD_cons_succ, I.at, atL, atO, atP, evp, evs, retV, ↓reduceIte, Nat.reduceEqDiff, reduceCtorEq], 0, b, rfl, by omega, hm, rfl, fun i => by rw [if_neg (by omega)]⟩ ?_
  clear hm hs1
  rintro t w2 ⟨t0, t1, t8, t9, t2, k, d, t10, hk, hm, hd, hco⟩
  by_cases hlt : k < a.length
  · have hkd : k < d.length := by omega
    have hs1 := (h1 d).sl a w2 hm
    have hs2 := (h2 a).sl d w2 hm
    simp (maxSteps := 1000000) (disch := omega) only [WS, List.getElem_cons_zero, List.getElem_cons_succ, Option.isNone_some, Option.isNone_none, List.getD_cons_zero, List.getD_cons_succ, I.at, atL, atO, atP, evp, evs, retV, ↓reduceIte, Nat.reduceEqDiff, reduceCtorEq, AS, t0, t1, t8, t9, t2, t10, hs1.Xix hlt, hs1.Xld hlt, hs2.Xix hkd, hs2.Xld hkd, cell_e16, xor16]
    refine (h2 a).Xst hm hkd (d[k] + a[k]) fun w3 hm3 hg3 => ?_
    simp (maxSteps := 1000000) (disch := omega) only [WS, List.getElem_cons_zero, List.getElem_cons_succ, Option.isNone_some, Option.isNone_none, List.getD_cons_zero, List.getD_cons_succ, I.at, atL, atO, atP, evp, evs, retV, ↓reduceIte, Nat.reduceEqDiff, reduceCtorEq, AS, t0, t1, t8, t9, t2, t10]
    refine ⟨⟨k + 1, _, rfl, by omega, hm3, by simp [hd], fun i => ?_⟩, by omega⟩
    rw [co_set _ hkd, hco i]
    by_cases hi : i = k
    · subst hi
      have := hco i
      rw [if_neg (by omega), co_get d hkd] at this
      rw [if_pos rfl, if_pos (by omega), this, co_get a hlt, El.add_comm]
    · rw [if_neg hi]
      by_cases hik : i < k
      · rw [if_pos hik, if_pos (by omega)]
      · rw [if_neg hik, if_neg (by omega)]
  · simp (maxSteps := 1000000) (disch := omega) only [WS, List.getElem_cons_zero, List.getElem_cons_succ, Option.isNone_some, Option.isNone_none, List.getD_cons_zero, List.getD_cons_succ, I.at, atL, atO, atP, evp, evs, retV, ↓reduceIte, Nat.reduceEqDiff, reduceCtorEq, AS, t0, t1, t8, t9, t2, t10]
    refine X_call0 ((afft_addTimes_spec (M := fun a w => M a d w) c s1 s2 d a w2 (h1 d) (fun l w h => (h2 l).sl d w h) hm (by omega) (by omega)).mono ?_)
    rintro _ w3 ⟨rfl, a', hm, ha, hca⟩
    simp (maxSteps := 1000000) (disch := omega) only [WS, List.getElem_cons_zero, List.getElem_cons_succ, Option.isNone_some, Option.isNone_none, List.getD_cons_zero, List.getD_cons_succ, I.at, atL, atO, atP, evp, evs, retV, ↓reduceIte, Nat.reduceEqDiff, reduceCtorEq, AS]
    have hd2 : ∀ i, (co d).c i = (co a).c i + (co b).c i := fun i => by
      rw [hco i]
      by_cases hi : i < k
      · rw [if_pos hi]
      · rw [if_neg hi, co_dg a i (by omega), co_dg b i (by omega), El.add_zero]
    exact ⟨a', d, hm, ha, hd, fun i => by rw [hca i, hd2 i], hd2⟩
end Go.Proofs.Ytikaanmmdemaiaa.Fw
