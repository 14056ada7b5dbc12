import Derived.Test.YtikaanmmdemaiaaProg
import Derived.Test.YtikaanmmdemaiaaFwTR
import Derived.Test.YtikaanmmdemaiaaSQ1R
set_option linter.all false
set_option linter.unusedVariables false
set_option linter.unusedSimpArgs false
set_option maxRecDepth 100000
set_option maxHeartbeats 1000000
namespace Go.Proofs.Ytikaanmmdemaiaa.Fw
open Go Go.Fw Go.Proofs
attribute [local irreducible] stepI
def c_afft_addTimes : C := .seq (.seq (.ops [⟨0, (some 15), none, .mov (.t 0), []⟩, ⟨1, (some 16), none, .bin .eql (.t 15) (.c (.int .u16 0)), []⟩]) (.ite (.t 16) .ret .skip)) (.seq (.seq (.ops [⟨0, (some 17), none, .mov (.t 2), []⟩, ⟨1, (some 18), none, .len (.t 17), []⟩, ⟨2, (some 19), none, .bin .lss (.t 18) (.c (.int .i64 16)), []⟩]) (.ite (.t 19) (.seq (.seq (.ops [⟨0, (some 20), none, .mov (.t 2), []⟩, ⟨1, (some 21), none, .len (.t 20), []⟩, ⟨2, (some 22), none, .mov (.c (.int .i64 0)), []⟩]) (.block 0 (.loop (.seq (.ops [⟨0, (some 23), none, .bin .lss (.t 22) (.t 21), []⟩]) (.seq (.ite (.t 23) .skip (.exit 0)) (.seq (.block 1 (.seq (.ops [⟨0, (some 24), none, .mov (.t 22), []⟩, ⟨1, (some 25), none, .ixs 1 (.t 20) (.t 22), []⟩, ⟨2, (some 26), none, .ld (.t 25), []⟩, ⟨3, (some 6), none, .mov (.t 24), []⟩, ⟨4, (some 7), none, .mov (.t 26), []⟩]) (.dops [⟨0, (some 27), none, .mov (.t 1), []⟩, ⟨1, (some 28), none, .mov (.t 6), []⟩, ⟨2, (some 29), none, .ixs 1 (.t 27) (.t 28), []⟩, ⟨3, (some 30), none, .ld (.t 29), []⟩, ⟨4, (some 31), none, .mov (.t 0), []⟩, ⟨5, (some 32), none, .mov (.t 7), []⟩, ⟨6, (some 33), none, .call (.c (.func (.func 34) #[] #[])) [.t 31, .t 32], [3]⟩, ⟨7, (some 34), none, .bin .xor (.t 30) (.t 33), []⟩, ⟨8, (some 35), none, .ixs 1 (.t 27) (.t 28), []⟩, ⟨9, none, none, .st (.t 35) (.t 34), []⟩]))) (.ops [⟨0, (some 36), none, .bin .add (.t 22) (.c (.int .i64 1)), []⟩, ⟨1, (some 22), none, .mov (.t 36), []⟩]))))))) .ret) .skip)) (.seq (.ops [⟨0, (some 8), none, .alloc 85 (List.replicate 64 (.int .u16 0)), []⟩]) (.seq (.seq (.ops [⟨0, (some 37), none, .mov (.c (.int .i64 0)), []⟩]) (.block 2 (.loop (.seq (.ops [⟨0, (some 38), none, .bin .lss (.t 37) (.c (.int .i64 4)), []⟩]) (.seq (.ite (.t 38) .skip (.exit 2)) (.seq (.block 3 (.seq (.ops [⟨0, (some 39), none, .mov (.t 37), []⟩, ⟨1, (some 9), none, .mov (.t 39), []⟩]) (.seq (.ops [⟨0, (some 10), none, .mov (.c (.int .i64 1)), []⟩]) (.block 4 (.loop (.seq (.seq (.ops [⟨0, (some 40), none, .mov (.t 10), []⟩, ⟨1, (some 41), none, .bin .lss (.t 40) (.c (.int .i64 16)), []⟩]) (.ite (.t 41) .skip (.exit 4))) (.seq (.block 5 (.seq (.ops [⟨0, (some 44), none, .mov (.t 0), []⟩, ⟨1, (some 45), none, .mov (.t 10), []⟩, ⟨2, (some 46), none, .cnv .u16 (.t 45), []⟩, ⟨3, (some 47), none, .mov (.t 9), []⟩, ⟨4, (some 48), none, .bin .mul (.c (.int .i64 4)) (.t 47), []⟩, ⟨5, (some 49), none, .bin .shl (.t 46) (.t 48), []⟩, ⟨6, (some 50), none, .call (.c (.func (.func 34) #[] #[])) [.t 44, .t 49], []⟩, ⟨7, (some 11), none, .mov (.t 50), []⟩]) (.seq (.ops [⟨0, (some 51), none, .mov (.t 10), []⟩, ⟨1, (some 52), none, .mov (.c (.int .i64 0)), []⟩]) (.block 6 (.loop (.seq (.ops [⟨0, (some 53), none, .bin .lss (.t 52) (.t 51), []⟩]) (.seq (.ite (.t 53) .skip (.exit 6)) (.seq (.block 7 (.seq (.ops [⟨0, (some 54), none, .mov (.t 52), []⟩, ⟨1, (some 12), none, .mov (.t 54), []⟩]) (.dops [⟨0, (some 55), none, .mov (.t 9), []⟩, ⟨1, (some 56), none, .mov (.t 10), []⟩, ⟨2, (some 57), none, .mov (.t 12), []⟩, ⟨3, (some 58), none, .bin .add (.t 56) (.t 57), []⟩, ⟨4, (some 59), none, .mov (.t 11), []⟩, ⟨5, (some 60), none, .mov (.t 9), []⟩, ⟨6, (some 61), none, .mov (.t 12), []⟩, ⟨7, (some 62), none, .ixa 4 16 (.t 8) (.t 60), []⟩, ⟨8, (some 63), none, .ixa 16 1 (.t 62) (.t 61), []⟩, ⟨9, (some 64), none, .ld (.t 63), []⟩, ⟨10, (some 65), none, .bin .xor (.t 59) (.t 64), []⟩, ⟨11, (some 66), none, .ixa 4 16 (.t 8) (.t 55), []⟩, ⟨12, (some 67), none, .ixa 16 1 (.t 66) (.t 58), []⟩, ⟨13, none, none, .st (.t 67) (.t 65), []⟩]))) (.ops [⟨0, (some 68), none, .bin .add (.t 52) (.c (.int .i64 1)), []⟩, ⟨1, (some 52), none, .mov (.t 68), []⟩]))))))))) (.ops [⟨0, (some 42), none, .mov (.t 10), []⟩, ⟨1, (some 43), none, .bin .mul (.t 42) (.c (.int .i64 2)), []⟩, ⟨2, (some 10), none, .mov (.t 43), []⟩])))))))) (.ops [⟨0, (some 69), none, .bin .add (.t 37) (.c (.int .i64 1)), []⟩, ⟨1, (some 37), none, .mov (.t 69), []⟩]))))))) (.seq (.ops [⟨0, (some 70), none, .mov (.t 2), []⟩, ⟨1, (some 71), none, .len (.t 70), []⟩, ⟨2, (some 72), none, .mov (.c (.int .i64 0)), []⟩]) (.block 8 (.loop (.seq (.ops [⟨0, (some 73), none, .bin .lss (.t 72) (.t 71), []⟩]) (.seq (.ite (.t 73) .skip (.exit 8)) (.seq (.block 9 (.seq (.ops [⟨0, (some 74), none, .mov (.t 72), []⟩, ⟨1, (some 75), none, .ixs 1 (.t 70) (.t 72), []⟩, ⟨2, (some 76), none, .ld (.t 75), []⟩, ⟨3, (some 13), none, .mov (.t 74), []⟩, ⟨4, (some 14), none, .mov (.t 76), []⟩]) (.dops [⟨0, (some 77), none, .mov (.t 1), []⟩, ⟨1, (some 78), none, .mov (.t 13), []⟩, ⟨2, (some 79), none, .ixs 1 (.t 77) (.t 78), []⟩, ⟨3, (some 80), none, .ld (.t 79), []⟩, ⟨4, (some 81), none, .mov (.t 14), []⟩, ⟨5, (some 82), none, .bin .and (.t 81) (.c (.int .u16 15)), []⟩, ⟨6, (some 83), none, .ixa 4 16 (.t 8) (.c (.int .i64 0)), []⟩, ⟨7, (some 84), none, .ixa 16 1 (.t 83) (.t 82), []⟩, ⟨8, (some 85), none, .ld (.t 84), []⟩, ⟨9, (some 86), none, .mov (.t 14), []⟩, ⟨10, (some 87), none, .bin .shr (.t 86) (.c (.int .u64 4)), []⟩, ⟨11, (some 88), none, .bin .and (.t 87) (.c (.int .u16 15)), []⟩, ⟨12, (some 89), none, .ixa 4 16 (.t 8) (.c (.int .i64 1)), []⟩, ⟨13, (some 90), none, .ixa 16 1 (.t 89) (.t 88), []⟩, ⟨14, (some 91), none, .ld (.t 90), []⟩, ⟨15, (some 92), none, .bin .xor (.t 85) (.t 91), []⟩, ⟨16, (some 93), none, .mov (.t 14), []⟩, ⟨17, (some 94), none, .bin .shr (.t 93) (.c (.int .u64 8)), []⟩, ⟨18, (some 95), none, .bin .and (.t 94) (.c (.int .u16 15)), []⟩, ⟨19, (some 96), none, .ixa 4 16 (.t 8) (.c (.int .i64 2)), []⟩, ⟨20, (some 97), none, .ixa 16 1 (.t 96) (.t 95), []⟩, ⟨21, (some 98), none, .ld (.t 97), []⟩, ⟨22, (some 99), none, .bin .xor (.t 92) (.t 98), []⟩, ⟨23, (some 100), none, .mov (.t 14), []⟩, ⟨24, (some 101), none, .bin .shr (.t 100) (.c (.int .u64 12)), []⟩, ⟨25, (some 102), none, .ixa 4 16 (.t 8) (.c (.int .i64 3)), []⟩, ⟨26, (some 103), none, .ixa 16 1 (.t 102) (.t 101), []⟩, ⟨27, (some 104), none, .ld (.t 103), []⟩, ⟨28, (some 105), none, .bin .xor (.t 99) (.t 104), []⟩, ⟨29, (some 106), none, .bin .xor (.t 80) (.t 105), []⟩, ⟨30, (some 107), none, .ixs 1 (.t 77) (.t 78), []⟩, ⟨31, none, none, .st (.t 107) (.t 106), []⟩]))) (.ops [⟨0, (some 108), none, .bin .add (.t 72) (.c (.int .i64 1)), []⟩, ⟨1, (some 72), none, .mov (.t 108), []⟩]))))))))))
attribute [irreducible] c_afft_addTimes
theorem run_afft_addTimes {args : List Value} {w : World} {K : Value → World → Prop} (hn : args.length ≤ 109) (h : WP Try.prog c_afft_addTimes (endQ [] K) (initT args) w) : CallV Try.prog 48 args w K :=
  call_of follows Try.func48 (by kernel_rfl) (by kernel_rfl) hn h
end Go.Proofs.Ytikaanmmdemaiaa.Fw
namespace Go.Proofs.Ytikaanmmdemaiaa.Fw
open Go Go.Fw
theorem map_get {α : Type} [Cell α] (l : List α) {i : Nat} (h : i < l.length) (h' : i < (l.map (Cell.v : α → Value)).length) : (l.map (Cell.v : α → Value))[i] = Cell.v l[i] := by simp
theorem afft_addTimes_spec {M : List (El 16) → World → Prop} (c : El 16) (dst src : Value) (ss dd : List (El 16)) (w : World) (hW : Wr M dst) (hs : ∀ l w, M l w → Sl w src ss) (hm : M dd w) (hl : ss.length ≤ dd.length) (hb : ss.length ≤ 70368744175616) :
    CallV Try.prog 48 [.int .u16 (c.v.toNat : Int), dst, src] w fun v w' => v = .tuple #[] ∧ ∃ d', M d' w' ∧ d'.length = dd.length ∧ ∀ i, (co d').c i = (co dd).c i + c * (co ss).c i := by
  refine run_afft_addTimes (by simp) ?_
  simp only [c_afft_addTimes, WS, List.getElem_cons_zero, List.getElem_cons_succ, Option.isNone_some, Option.isNone_none, List.getD_cons_zero, List.getD_cons_succ, I.at, atL, atO, atP, evp, evs, retV, ↓reduceIte, Nat.reduceEqDiff, reduceCtorEq]
  by_cases hc0 : c = 0
  · have d1 : decide ((c.v.toNat : Int) = 0) = true := decide_eq_true ((el_zero c).mpr hc0)
    simp (maxSteps := 1000000) (disch := omega) only [WS, List.getElem_cons_zero, List.getElem_cons_succ, Option.isNone_some, Option.isNone_none, List.getD_cons_zero, List.getD_cons_succ, I.at, atL, atO, atP, evp, evs, retV, ↓reduceIte, Nat.reduceEqDiff, reduceCtorEq, AS, d1]
    exact ⟨dd, hm, rfl, fun i => by rw [hc0, El.zero_mul, El.add_zero]⟩
  have d1 : decide ((c.v.toNat : Int) = 0) = false := decide_eq_false fun e => hc0 ((el_zero c).mp e)
  by_cases h16 : ss.length < 16
  · simp (maxSteps := 1000000) (disch := omega) only [WS, List.getElem_cons_zero, List.getElem_cons_succ, Option.isNone_some, Option.isNone_none, List.getD_cons_zero, List.getD_cons_succ, I.at, atL, atO, atP, evp, evs, retV, ↓reduceIte, Nat.reduceEqDiff, reduceCtorEq, AS, d1, (hs dd w hm).Xlen]
    refine loop_of (fun t w' => t 0 = .int .u16 (c.v.toNat : Int) ∧ t 1 = dst ∧ t 20 = src ∧ t 21 = .int .i64 (ss.length : Int) ∧ ∃ (k : Nat) (d : List (El 16)), t 22 = .int .i64 (k : Int) ∧ k ≤ ss.length ∧ M d w' ∧ d.length = dd.length ∧ ∀ i, (co d).c i = if i < k then (co dd).c i + c * (co ss).c i else (co dd).c i)
      (fun t _ => ss.length - (toI (t 22)).toNat) ⟨by simp only [WS, List.getElem_cons_zero, List.getElem_cons_succ, Option.isNone_some, Option.isNone_none, List.getD_cons_zero, List.getD_cons_succ, I.at, atL, atO, atP, evp, evs, retV, ↓reduceIte, Nat.reduceEqDiff, reduceCtorEq], by simp only [WS, List.getElem_cons_zero, List.getElem_cons_succ, Option.isNone_some, Option.isNone_none, List.getD_cons_zero, List.getD_cons_succ, I.at, atL, atO, atP, evp, evs, retV, ↓reduceIte, Nat.reduceEqDiff, reduceCtorEq], by simp only [WS, List.getElem_cons_zero, List.getElem_cons_succ, Option.isNone_some, Option.isNone_none, List.getD_cons_zero, List.getD_cons_succ, I.at, atL, atO, atP, evp, evs, retV, ↓reduceIte, Nat.reduceEqDiff, reduceCtorEq], by simp only [WS, List.getElem_cons_zero, List.getElem_cons_succ, Option.isNone_some, Option.isNone_none, List.getD_cons_zero, List.getD_cons_succ, I.at, atL, atO, atP, evp, evs, retV, ↓reduceIte, Nat.reduceEqDiff, reduceCtorEq], 0, dd, rfl, by omega, hm, rfl, fun i => by rw [if_neg (by omega)]⟩ ?_
    clear hm
    rintro t w1 ⟨t0, t1, t20, t21, k, d, t22, hk, hm, hd, hco⟩
    by_cases hlt : k < ss.length
    · have hkd : k < d.length := by omega
      have hsl := hs d w1 hm
      simp (maxSteps := 1000000) (disch := omega) only [WS, List.getElem_cons_zero, List.getElem_cons_succ, Option.isNone_some, Option.isNone_none, List.getD_cons_zero, List.getD_cons_succ, I.at, atL, atO, atP, evp, evs, retV, ↓reduceIte, Nat.reduceEqDiff, reduceCtorEq, AS, t0, t1, t20, t21, t22, hsl.Xix hlt, hsl.Xld hlt, cell_e16]
      refine WP_dops ?_
      have hmd := hW.drew hm
      have hdd := hW.sl d _ hmd
      have see : Fw.sees Try.prog (.ld (.c (elP dst k))) w1.drew (.int .u16 (d[k].v.toNat : Int)) = True := hdd.sees hkd Try.prog
      simp (maxSteps := 1000000) (disch := omega) only [ES, List.mem_cons, List.not_mem_nil, implies_true, forall_const, WS, List.getElem_cons_zero, List.getElem_cons_succ, Option.isNone_some, Option.isNone_none, List.getD_cons_zero, List.getD_cons_succ, I.at, atL, atO, atP, evp, evs, retV, ↓reduceIte, Nat.reduceEqDiff, reduceCtorEq, AS, t0, t1, t20, t21, t22, hdd.Eix hkd, hdd.Eld hkd, cell_e16]
      refine E_call0 ((gf16_Mul_spec w1.drew c ss[k]).mono ?_)
      rintro _ w2 ⟨rfl, rfl⟩
      simp (maxSteps := 1000000) (disch := omega) only [ES, List.mem_cons, List.not_mem_nil, implies_true, forall_const, WS, List.getElem_cons_zero, List.getElem_cons_succ, Option.isNone_some, Option.isNone_none, List.getD_cons_zero, List.getD_cons_succ, I.at, atL, atO, atP, evp, evs, retV, ↓reduceIte, Nat.reduceEqDiff, reduceCtorEq, AS, see, xor16, hdd.Eix hkd]
      refine hW.Est hmd hkd (d[k] + c * ss[k]) fun w3 hm3 hg3 => ?_
      simp (maxSteps := 1000000) (disch := omega) only [ES, List.mem_cons, List.not_mem_nil, implies_true, forall_const, WS, List.getElem_cons_zero, List.getElem_cons_succ, Option.isNone_some, Option.isNone_none, List.getD_cons_zero, List.getD_cons_succ, I.at, atL, atO, atP, evp, evs, retV, ↓reduceIte, Nat.reduceEqDiff, reduceCtorEq, AS, t0, t1, t20, t21, t22]
      refine ⟨⟨k + 1, _, rfl, by omega, hm3, by simp [hd], fun i => ?_⟩, by omega⟩
      rw [co_set _ hkd, hco i]
      by_cases hi : i = k
      · subst hi
        have := hco i
        rw [if_neg (by omega), co_get d hkd] at this
        rw [if_pos rfl, if_pos (by omega), this, co_get ss hlt]
      · rw [if_neg hi]
        by_cases hik : i < k
        · rw [if_pos hik, if_pos (by omega)]
        · rw [if_neg hik, if_neg (by omega)]
    · simp (maxSteps := 1000000) (disch := omega) only [WS, List.getElem_cons_zero, List.getElem_cons_succ, Option.isNone_some, Option.isNone_none, List.getD_cons_zero, List.getD_cons_succ, I.at, atL, atO, atP, evp, evs, retV, ↓reduceIte, Nat.reduceEqDiff, reduceCtorEq, AS, t0, t1, t20, t21, t22]
      refine ⟨d, hm, hd, fun i => ?_⟩
      rw [hco i]
      by_cases hi : i < k
      · rw [if_pos hi]
      · rw [if_neg hi, co_dg ss i (by omega), El.mul_zero, El.add_zero]
  have hdne : dd ≠ [] := by rintro rfl; have h := hl; simp only [List.length_nil] at h; omega
  have hblt : (bs dst).block < w.heap.size := (hW.sl dd w hm).bs_lt hdne
  simp (maxSteps := 1000000) (disch := omega) only [WS, List.getElem_cons_zero, List.getElem_cons_succ, Option.isNone_some, Option.isNone_none, List.getD_cons_zero, List.getD_cons_succ, I.at, atL, atO, atP, evp, evs, retV, ↓reduceIte, Nat.reduceEqDiff, reduceCtorEq, AS, d1, (hs dd w hm).Xlen]
  refine X_alloc fun b w1 hr hbs hB => ?_
  have hr : Row w1 b ((List.replicate 64 (0 : El 16)).map Cell.v) := by rw [List.map_replicate]; exact hr
  simp (maxSteps := 1000000) (disch := omega) only [WS, List.getElem_cons_zero, List.getElem_cons_succ, Option.isNone_some, Option.isNone_none, List.getD_cons_zero, List.getD_cons_succ, I.at, atL, atO, atP, evp, evs, retV, ↓reduceIte, Nat.reduceEqDiff, reduceCtorEq, AS]
  refine loop_of (fun t w' => t 0 = .int .u16 (c.v.toNat : Int) ∧ t 1 = dst ∧ t 2 = src ∧ t 8 = .pointer (some ⟨b, 0, none⟩) ∧ RowKit.Below w.heap.size w w' ∧ ∃ (n : Nat) (pt : List (El 16)), t 37 = .int .i64 (n : Int) ∧ n ≤ 4 ∧ Row w' b (pt.map Cell.v) ∧ pt.length = 64 ∧
      (∀ m x, m < n → x < 16 → (co pt).c (16 * m + x) = want c m x) ∧ ∀ m, n ≤ m → m < 4 → (co pt).c (16 * m) = 0) (fun t _ => 4 - (toI (t 37)).toNat)
    ⟨by simp only [WS, List.getElem_cons_zero, List.getElem_cons_succ, Option.isNone_some, Option.isNone_none, List.getD_cons_zero, List.getD_cons_succ, I.at, atL, atO, atP, evp, evs, retV, ↓reduceIte, Nat.reduceEqDiff, reduceCtorEq], by simp only [WS, List.getElem_cons_zero, List.getElem_cons_succ, Option.isNone_some, Option.isNone_none, List.getD_cons_zero, List.getD_cons_succ, I.at, atL, atO, atP, evp, evs, retV, ↓reduceIte, Nat.reduceEqDiff, reduceCtorEq], by simp only [WS, List.getElem_cons_zero, List.getElem_cons_succ, Option.isNone_some, Option.isNone_none, List.getD_cons_zero, List.getD_cons_succ, I.at, atL, atO, atP, evp, evs, retV, ↓reduceIte, Nat.reduceEqDiff, reduceCtorEq], by simp only [WS, List.getElem_cons_zero, List.getElem_cons_succ, Option.isNone_some, Option.isNone_none, List.getD_cons_zero, List.getD_cons_succ, I.at, atL, atO, atP, evp, evs, retV, ↓reduceIte, Nat.reduceEqDiff, reduceCtorEq], hB, 0, _, rfl, by omega, hr, by simp, fun m x h => by omega, fun m _ _ => by rw [co_replicate]; rfl⟩ ?_
  clear hr hB
  rintro t w2 ⟨t0, t1, t2, t8, hB, n, pt, t37, hn, hr, hpl, hw1, hw2⟩
  by_cases hn4 : n < 4
  · simp (maxSteps := 1000000) (disch := omega) only [WS, List.getElem_cons_zero, List.getElem_cons_succ, Option.isNone_some, Option.isNone_none, List.getD_cons_zero, List.getD_cons_succ, I.at, atL, atO, atP, evp, evs, retV, ↓reduceIte, Nat.reduceEqDiff, reduceCtorEq, AS, t0, t1, t2, t8, t37]
    refine loop_of (fun t w' => t 0 = .int .u16 (c.v.toNat : Int) ∧ t 1 = dst ∧ t 2 = src ∧ t 8 = .pointer (some ⟨b, 0, none⟩) ∧ t 37 = .int .i64 (n : Int) ∧ t 9 = .int .i64 (n : Int) ∧ RowKit.Below w.heap.size w w' ∧ ∃ (j : Nat) (pt : List (El 16)), t 10 = .int .i64 ((2 ^ j : Nat) : Int) ∧ j ≤ 4 ∧ Row w' b (pt.map Cell.v) ∧ pt.length = 64 ∧
        (∀ m x, m < n → x < 16 → (co pt).c (16 * m + x) = want c m x) ∧ (∀ x, x < 2 ^ j → (co pt).c (16 * n + x) = want c n x) ∧ ∀ m, n < m → m < 4 → (co pt).c (16 * m) = 0) (fun t _ => 16 - (toI (t 10)).toNat)
      ⟨by simp only [WS, List.getElem_cons_zero, List.getElem_cons_succ, Option.isNone_some, Option.isNone_none, List.getD_cons_zero, List.getD_cons_succ, I.at, atL, atO, atP, evp, evs, retV, ↓reduceIte, Nat.reduceEqDiff, reduceCtorEq]; exact t0, by simp only [WS, List.getElem_cons_zero, List.getElem_cons_succ, Option.isNone_some, Option.isNone_none, List.getD_cons_zero, List.getD_cons_succ, I.at, atL, atO, atP, evp, evs, retV, ↓reduceIte, Nat.reduceEqDiff, reduceCtorEq]; exact t1, by simp only [WS, List.getElem_cons_zero, List.getElem_cons_succ, Option.isNone_some, Option.isNone_none, List.getD_cons_zero, List.getD_cons_succ, I.at, atL, atO, atP, evp, evs, retV, ↓reduceIte, Nat.reduceEqDiff, reduceCtorEq]; exact t2, by simp only [WS, List.getElem_cons_zero, List.getElem_cons_succ, Option.isNone_some, Option.isNone_none, List.getD_cons_zero, List.getD_cons_succ, I.at, atL, atO, atP, evp, evs, retV, ↓reduceIte, Nat.reduceEqDiff, reduceCtorEq]; exact t8, by simp only [WS, List.getElem_cons_zero, List.getElem_cons_succ, Option.isNone_some, Option.isNone_none, List.getD_cons_zero, List.getD_cons_succ, I.at, atL, atO, atP, evp, evs, retV, ↓reduceIte, Nat.reduceEqDiff, reduceCtorEq]; exact t37, rfl, hB, 0, pt, rfl, by omega, hr, hpl, hw1, fun x hx => by have hx0 : x = 0 := (by simpa using hx); subst hx0; rw [Nat.add_zero, hw2 n (Nat.le_refl _) hn4, want_zero], fun m h1 h2 => hw2 m (by omega) h2⟩ ?_
    clear t0 t1 t2 t8 t37 hB hr hpl hw1 hw2
    rintro t w3 ⟨t0, t1, t2, t8, t37, t9, hB, j, pt, t10, hj, hr, hpl, hw1, hw2, hw3⟩
    by_cases hj4 : j < 4
    · have hp0 := Nat.two_pow_pos j
      have hp1 : 2 ^ j ≤ 2 ^ 3 := Nat.pow_le_pow_right (by omega) (by omega)
      have hq : 2 ^ j * 2 ^ (4 * n) < 2 ^ 16 := by
        have h1 : 2 ^ (4 * n) ≤ 2 ^ 12 := Nat.pow_le_pow_right (by omega) (by omega)
        have := Nat.mul_le_mul hp1 h1
        omega
      have e1 : IntKind.i64.wrap (4 * (n : Int)) = ((4 * n : Nat) : Int) := w_mull n 4 (by show 4 * n < _; omega)
      have e2 : IntKind.u16.wrap ((2 ^ j : Nat) : Int) = ((2 ^ j : Nat) : Int) := wrap_u16 _ (by omega)
      have e3 : shlV .u16 ((2 ^ j : Nat) : Int) ((4 * n : Nat) : Int) = ((2 ^ j <<< (4 * n) : Nat) : Int) := shl_nat fits_u16 _ _ (by show 4 * n ≤ 16; omega) hq
      have e4 : ((2 ^ j <<< (4 * n) : Nat) : Int) = ((eN (2 ^ j <<< (4 * n))).v.toNat : Int) := by rw [eN_v _ (by rw [Nat.shiftLeft_eq]; omega)]
      simp (maxSteps := 1000000) (disch := omega) only [WS, List.getElem_cons_zero, List.getElem_cons_succ, Option.isNone_some, Option.isNone_none, List.getD_cons_zero, List.getD_cons_succ, I.at, atL, atO, atP, evp, evs, retV, ↓reduceIte, Nat.reduceEqDiff, reduceCtorEq, AS, t0, t1, t2, t8, t9, t10, t37, e1, e2, X_shl, Int.natCast_nonneg, e3]
      rw [e4]
      refine X_call0 ((gf16_Mul_spec w3 c (eN (2 ^ j <<< (4 * n)))).mono ?_)
      rintro _ w4 ⟨rfl, rfl⟩
      simp (maxSteps := 1000000) (disch := omega) only [WS, List.getElem_cons_zero, List.getElem_cons_succ, Option.isNone_some, Option.isNone_none, List.getD_cons_zero, List.getD_cons_succ, I.at, atL, atO, atP, evp, evs, retV, ↓reduceIte, Nat.reduceEqDiff, reduceCtorEq, AS, t0, t1, t2, t8, t9, t10, t37]
      refine loop_of (fun t w' => t 0 = .int .u16 (c.v.toNat : Int) ∧ t 1 = dst ∧ t 2 = src ∧ t 8 = .pointer (some ⟨b, 0, none⟩) ∧ t 37 = .int .i64 (n : Int) ∧ t 9 = .int .i64 (n : Int) ∧ t 10 = .int .i64 ((2 ^ j : Nat) : Int) ∧ t 11 = .int .u16 ((want c n (2 ^ j)).v.toNat : Int) ∧ t 51 = .int .i64 ((2 ^ j : Nat) : Int) ∧ RowKit.Below w.heap.size w w' ∧ ∃ (low : Nat) (pt : List (El 16)), t 52 = .int .i64 (low : Int) ∧ low ≤ 2 ^ j ∧ Row w' b (pt.map Cell.v) ∧ pt.length = 64 ∧
          (∀ m x, m < n → x < 16 → (co pt).c (16 * m + x) = want c m x) ∧ (∀ x, x < 2 ^ j + low → (co pt).c (16 * n + x) = want c n x) ∧ ∀ m, n < m → m < 4 → (co pt).c (16 * m) = 0) (fun t _ => 2 ^ j - (toI (t 52)).toNat)
        ⟨by simp only [WS, List.getElem_cons_zero, List.getElem_cons_succ, Option.isNone_some, Option.isNone_none, List.getD_cons_zero, List.getD_cons_succ, I.at, atL, atO, atP, evp, evs, retV, ↓reduceIte, Nat.reduceEqDiff, reduceCtorEq]; exact t0, by simp only [WS, List.getElem_cons_zero, List.getElem_cons_succ, Option.isNone_some, Option.isNone_none, List.getD_cons_zero, List.getD_cons_succ, I.at, atL, atO, atP, evp, evs, retV, ↓reduceIte, Nat.reduceEqDiff, reduceCtorEq]; exact t1, by simp only [WS, List.getElem_cons_zero, List.getElem_cons_succ, Option.isNone_some, Option.isNone_none, List.getD_cons_zero, List.getD_cons_succ, I.at, atL, atO, atP, evp, evs, retV, ↓reduceIte, Nat.reduceEqDiff, reduceCtorEq]; exact t2, by simp only [WS, List.getElem_cons_zero, List.getElem_cons_succ, Option.isNone_some, Option.isNone_none, List.getD_cons_zero, List.getD_cons_succ, I.at, atL, atO, atP, evp, evs, retV, ↓reduceIte, Nat.reduceEqDiff, reduceCtorEq]; exact t8, by simp only [WS, List.getElem_cons_zero, List.getElem_cons_succ, Option.isNone_some, Option.isNone_none, List.getD_cons_zero, List.getD_cons_succ, I.at, atL, atO, atP, evp, evs, retV, ↓reduceIte, Nat.reduceEqDiff, reduceCtorEq]; exact t37, by simp only [WS, List.getElem_cons_zero, List.getElem_cons_succ, Option.isNone_some, Option.isNone_none, List.getD_cons_zero, List.getD_cons_succ, I.at, atL, atO, atP, evp, evs, retV, ↓reduceIte, Nat.reduceEqDiff, reduceCtorEq]; exact t9, by simp only [WS, List.getElem_cons_zero, List.getElem_cons_succ, Option.isNone_some, Option.isNone_none, List.getD_cons_zero, List.getD_cons_succ, I.at, atL, atO, atP, evp, evs, retV, ↓reduceIte, Nat.reduceEqDiff, reduceCtorEq]; exact t10, rfl, by simp only [WS, List.getElem_cons_zero, List.getElem_cons_succ, Option.isNone_some, Option.isNone_none, List.getD_cons_zero, List.getD_cons_succ, I.at, atL, atO, atP, evp, evs, retV, ↓reduceIte, Nat.reduceEqDiff, reduceCtorEq], hB, 0, pt, rfl, by omega, hr, hpl, hw1, hw2, hw3⟩ ?_
      clear t0 t1 t2 t8 t37 t9 t10 hB hr hpl hw1 hw2 hw3
      rintro t w5 ⟨t0, t1, t2, t8, t37, t9, t10, t11, t51, hB, low, pt, t52, hlow, hr, hpl, hw1, hw2, hw3⟩
      by_cases hlt : low < 2 ^ j
      · have hi1 : 16 * n + low < pt.length := by omega
        have hi2 : 16 * n + (2 ^ j + low) < pt.length := by omega
        have hi1' : 16 * n + low < (pt.map (Cell.v : El 16 → Value)).length := by simpa using hi1
        have hi2' : 16 * n + (2 ^ j + low) < (pt.map (Cell.v : El 16 → Value)).length := by simpa using hi2
        have hrd := hr.drew
        simp (maxSteps := 1000000) (disch := omega) only [WS, List.getElem_cons_zero, List.getElem_cons_succ, Option.isNone_some, Option.isNone_none, List.getD_cons_zero, List.getD_cons_succ, I.at, atL, atO, atP, evp, evs, retV, ↓reduceIte, Nat.reduceEqDiff, reduceCtorEq, AS, t0, t1, t2, t8, t9, t10, t11, t37, t51, t52]
        refine WP_dops ?_
        have a1 : 0 + n * 16 + low * 1 = 16 * n + low := by omega
        have a2 : 0 + n * 16 + (2 ^ j + low) * 1 = 16 * n + (2 ^ j + low) := by omega
        simp (maxSteps := 1000000) (disch := omega) only [ES, List.mem_cons, List.not_mem_nil, implies_true, forall_const, WS, List.getElem_cons_zero, List.getElem_cons_succ, Option.isNone_some, Option.isNone_none, List.getD_cons_zero, List.getD_cons_succ, I.at, atL, atO, atP, evp, evs, retV, ↓reduceIte, Nat.reduceEqDiff, reduceCtorEq, w_add, addr_add0, t0, t1, t2, t8, t9, t10, t11, t37, t51, t52, E_ixa (n := 4) (sz := 16) hn4, E_ixa (n := 16) (sz := 1) (show low < 16 by omega), E_ixa (n := 16) (sz := 1) (show 2 ^ j + low < 16 by omega), a1, a2, hrd.Eld hi1', map_get pt hi1 hi1', cell_e16, xor16]
        refine Row.Est hrd hi2' (v := Cell.v (want c n (2 ^ j) + pt[16 * n + low])) rfl fun w6 hr6 hg6 => ?_
        rw [← List.map_set] at hr6
        have hB6 : RowKit.Below w.heap.size w w6 := (hB.trans ((bel_drew w5).mono hB.size)).grown hg6 hB.size fun k hk => by cases hk; exact hbs
        simp (maxSteps := 1000000) (disch := omega) only [ES, List.mem_cons, List.not_mem_nil, implies_true, forall_const, WS, List.getElem_cons_zero, List.getElem_cons_succ, Option.isNone_some, Option.isNone_none, List.getD_cons_zero, List.getD_cons_succ, I.at, atL, atO, atP, evp, evs, retV, ↓reduceIte, Nat.reduceEqDiff, reduceCtorEq, AS, t0, t1, t2, t8, t9, t10, t11, t37, t51, t52]
        have hval : want c n (2 ^ j) + pt[16 * n + low] = want c n (2 ^ j + low) := by
          rw [want_step c n j low hj4 hlt, ← co_get pt hi1, hw2 low (by omega)]
        refine ⟨⟨hB6, low + 1, _, rfl, by omega, hr6, by simp [hpl], fun m x hm hx => ?_, fun x hx => ?_, fun m h1 h2 => ?_⟩, by omega⟩
        · rw [co_set _ hi2, if_neg (by omega)]; exact hw1 m x hm hx
        · rw [co_set _ hi2]
          by_cases hx2 : x = 2 ^ j + low
          · subst hx2; rw [if_pos rfl, hval]
          · rw [if_neg (by omega)]; exact hw2 x (by omega)
        · rw [co_set _ hi2, if_neg (by omega)]; exact hw3 m h1 h2
      · have hp5 : 2 ^ (j + 1) = 2 * 2 ^ j := by rw [Nat.pow_succ, Nat.mul_comm]
        simp (maxSteps := 1000000) (disch := omega) only [WS, List.getElem_cons_zero, List.getElem_cons_succ, Option.isNone_some, Option.isNone_none, List.getD_cons_zero, List.getD_cons_succ, I.at, atL, atO, atP, evp, evs, retV, ↓reduceIte, Nat.reduceEqDiff, reduceCtorEq, AS, t0, t1, t2, t8, t9, t10, t11, t37, t51, t52]
        refine ⟨⟨hB, j + 1, pt, by rw [hp5, Nat.mul_comm], by omega, hr, hpl, hw1, fun x hx => hw2 x (by omega), hw3⟩, by simp only [Int.toNat_natCast]; omega⟩
    · obtain rfl : j = 4 := by omega
      simp (maxSteps := 1000000) (disch := omega) only [WS, List.getElem_cons_zero, List.getElem_cons_succ, Option.isNone_some, Option.isNone_none, List.getD_cons_zero, List.getD_cons_succ, I.at, atL, atO, atP, evp, evs, retV, ↓reduceIte, Nat.reduceEqDiff, reduceCtorEq, AS, t0, t1, t2, t8, t9, t10, t37, show decide (((2 ^ 4 : Nat) : Int) < 16) = false from rfl]
      refine ⟨⟨hB, n + 1, pt, rfl, by omega, hr, hpl, fun m x hm hx => ?_, fun m h1 h2 => hw3 m (by omega) h2⟩, by omega⟩
      by_cases hmn : m = n
      · subst hmn; exact hw2 x (by omega)
      · exact hw1 m x (by omega) hx
  · obtain rfl : n = 4 := by omega
    have hm2 : M dd w2 := hW.up dd w w2 hm hB
    have hW2 := hW.row (pt.map Cell.v) (b := b) (by omega)
    simp (maxSteps := 1000000) (disch := omega) only [WS, List.getElem_cons_zero, List.getElem_cons_succ, Option.isNone_some, Option.isNone_none, List.getD_cons_zero, List.getD_cons_succ, I.at, atL, atO, atP, evp, evs, retV, ↓reduceIte, Nat.reduceEqDiff, reduceCtorEq, AS, t0, t1, t2, t8, t37, show decide (((4 : Nat) : Int) < 4) = false from rfl, (hs dd w2 hm2).Xlen]
    refine loop_of (fun t w' => t 0 = .int .u16 (c.v.toNat : Int) ∧ t 1 = dst ∧ t 70 = src ∧ t 71 = .int .i64 (ss.length : Int) ∧ t 8 = .pointer (some ⟨b, 0, none⟩) ∧ ∃ (k : Nat) (d : List (El 16)), t 72 = .int .i64 (k : Int) ∧ k ≤ ss.length ∧ (M d w' ∧ Row w' b (pt.map Cell.v)) ∧ d.length = dd.length ∧ ∀ i, (co d).c i = if i < k then (co dd).c i + c * (co ss).c i else (co dd).c i)
      (fun t _ => ss.length - (toI (t 72)).toNat) ⟨by simp only [WS, List.getElem_cons_zero, List.getElem_cons_succ, Option.isNone_some, Option.isNone_none, List.getD_cons_zero, List.getD_cons_succ, I.at, atL, atO, atP, evp, evs, retV, ↓reduceIte, Nat.reduceEqDiff, reduceCtorEq]; exact t0, by simp only [WS, List.getElem_cons_zero, List.getElem_cons_succ, Option.isNone_some, Option.isNone_none, List.getD_cons_zero, List.getD_cons_succ, I.at, atL, atO, atP, evp, evs, retV, ↓reduceIte, Nat.reduceEqDiff, reduceCtorEq]; exact t1, by simp only [WS, List.getElem_cons_zero, List.getElem_cons_succ, Option.isNone_some, Option.isNone_none, List.getD_cons_zero, List.getD_cons_succ, I.at, atL, atO, atP, evp, evs, retV, ↓reduceIte, Nat.reduceEqDiff, reduceCtorEq], by simp only [WS, List.getElem_cons_zero, List.getElem_cons_succ, Option.isNone_some, Option.isNone_none, List.getD_cons_zero, List.getD_cons_succ, I.at, atL, atO, atP, evp, evs, retV, ↓reduceIte, Nat.reduceEqDiff, reduceCtorEq], by simp only [WS, List.getElem_cons_zero, List.getElem_cons_succ, Option.isNone_some, Option.isNone_none, List.getD_cons_zero, List.getD_cons_succ, I.at, atL, atO, atP, evp, evs, retV, ↓reduceIte, Nat.reduceEqDiff, reduceCtorEq]; exact t8, 0, dd, rfl, by omega, ⟨hm2, hr⟩, rfl, fun i => by rw [if_neg (by omega)]⟩ ?_
    clear hm hm2 hr hB t0 t1 t2 t8 t37
    rintro t w3 ⟨t0, t1, t70, t71, t8, k, d, t72, hk, hm, hd, hco⟩
    by_cases hlt : k < ss.length
    · have hkd : k < d.length := by omega
      have hsl := hs d w3 hm.1
      simp (maxSteps := 1000000) (disch := omega) only [WS, List.getElem_cons_zero, List.getElem_cons_succ, Option.isNone_some, Option.isNone_none, List.getD_cons_zero, List.getD_cons_succ, I.at, atL, atO, atP, evp, evs, retV, ↓reduceIte, Nat.reduceEqDiff, reduceCtorEq, AS, t0, t1, t8, t70, t71, t72, hsl.Xix hlt, hsl.Xld hlt, cell_e16]
      refine WP_dops ?_
      have hmd := hW2.drew hm
      have hdd := hW2.sl d _ hmd
      have hrd := hmd.2
      generalize hx : ss[k] = x
      have hxl := x.v.isLt
      have b0 : x.v.toNat &&& 15 < 16 := Nat.and_lt_two_pow (n := 4) _ (by decide)
      have b1 : (x.v.toNat >>> 4) &&& 15 < 16 := Nat.and_lt_two_pow (n := 4) _ (by decide)
      have b2 : (x.v.toNat >>> 8) &&& 15 < 16 := Nat.and_lt_two_pow (n := 4) _ (by decide)
      have b3 : x.v.toNat >>> 12 < 16 := by rw [Nat.shiftRight_eq_div_pow]; omega
      have c0 : bitsOp .and .u16 (x.v.toNat : Int) 15 = ((x.v.toNat &&& 15 : Nat) : Int) := bits_and fits_u16 (b := 15) hxl (by decide)
      have c1 : bitsOp .and .u16 ((x.v.toNat >>> 4 : Nat) : Int) 15 = (((x.v.toNat >>> 4) &&& 15 : Nat) : Int) := bits_and fits_u16 (b := 15) (by rw [Nat.shiftRight_eq_div_pow]; omega) (by decide)
      have c2 : bitsOp .and .u16 ((x.v.toNat >>> 8 : Nat) : Int) 15 = (((x.v.toNat >>> 8) &&& 15 : Nat) : Int) := bits_and fits_u16 (b := 15) (by rw [Nat.shiftRight_eq_div_pow]; omega) (by decide)
      have s1 : shrV .u16 (x.v.toNat : Int) 4 = ((x.v.toNat >>> 4 : Nat) : Int) := shr_nat .u16 _ 4 (by decide)
      have s2 : shrV .u16 (x.v.toNat : Int) 8 = ((x.v.toNat >>> 8 : Nat) : Int) := shr_nat .u16 _ 8 (by decide)
      have s3 : shrV .u16 (x.v.toNat : Int) 12 = ((x.v.toNat >>> 12 : Nat) : Int) := shr_nat .u16 _ 12 (by decide)
      have hdig := want_digits c x
      generalize (x.v.toNat &&& 15) = y0 at *
      generalize (x.v.toNat >>> 4) &&& 15 = y1 at *
      generalize (x.v.toNat >>> 8) &&& 15 = y2 at *
      generalize hz1 : x.v.toNat >>> 4 = z1 at *
      generalize hz2 : x.v.toNat >>> 8 = z2 at *
      generalize x.v.toNat >>> 12 = y3 at *
      have l0 : 16 * 0 + y0 < pt.length := by omega
      have l1 : 16 * 1 + y1 < pt.length := by omega
      have l2 : 16 * 2 + y2 < pt.length := by omega
      have l3 : 16 * 3 + y3 < pt.length := by omega
      have m0 : 16 * 0 + y0 < (pt.map (Cell.v : El 16 → Value)).length := by simpa using l0
      have m1 : 16 * 1 + y1 < (pt.map (Cell.v : El 16 → Value)).length := by simpa using l1
      have m2 : 16 * 2 + y2 < (pt.map (Cell.v : El 16 → Value)).length := by simpa using l2
      have m3 : 16 * 3 + y3 < (pt.map (Cell.v : El 16 → Value)).length := by simpa using l3
      have a0 : 0 + 0 * 16 + y0 * 1 = 16 * 0 + y0 := by omega
      have a1 : 0 + 1 * 16 + y1 * 1 = 16 * 1 + y1 := by omega
      have a2 : 0 + 2 * 16 + y2 * 1 = 16 * 2 + y2 := by omega
      have a3 : 0 + 3 * 16 + y3 * 1 = 16 * 3 + y3 := by omega
      simp (maxSteps := 1000000) (disch := omega) only [ES, List.mem_cons, List.not_mem_nil, implies_true, forall_const, WS, List.getElem_cons_zero, List.getElem_cons_succ, Option.isNone_some, Option.isNone_none, List.getD_cons_zero, List.getD_cons_succ, I.at, atL, atO, atP, evp, evs, retV, ↓reduceIte, Nat.reduceEqDiff, reduceCtorEq, addr_add0, t0, t1, t8, t70, t71, t72, hx, hdd.Eix hkd, hdd.Eld hkd, cell_e16, E_shr, show ((0 : Int) ≤ 4) = True from eq_true (by decide), show ((0 : Int) ≤ 8) = True from eq_true (by decide), show ((0 : Int) ≤ 12) = True from eq_true (by decide), c0, s1, c1, s2, c2, s3,
        E_ixac (n := 4) (sz := 16) 0 0 rfl (by decide), E_ixac (n := 4) (sz := 16) 1 1 rfl (by decide), E_ixac (n := 4) (sz := 16) 2 2 rfl (by decide), E_ixac (n := 4) (sz := 16) 3 3 rfl (by decide), E_ixa (n := 16) (sz := 1) b0, E_ixa (n := 16) (sz := 1) b1, E_ixa (n := 16) (sz := 1) b2, E_ixa (n := 16) (sz := 1) b3, a0, a1, a2, a3,
        hrd.Eld m0, hrd.Eld m1, hrd.Eld m2, hrd.Eld m3, map_get pt l0 m0, map_get pt l1 m1, map_get pt l2 m2, map_get pt l3 m3, xor16]
      refine hW2.Est hmd hkd _ fun w4 hm4 hg4 => ?_
      simp (maxSteps := 1000000) (disch := omega) only [ES, List.mem_cons, List.not_mem_nil, implies_true, forall_const, WS, List.getElem_cons_zero, List.getElem_cons_succ, Option.isNone_some, Option.isNone_none, List.getD_cons_zero, List.getD_cons_succ, I.at, atL, atO, atP, evp, evs, retV, ↓reduceIte, Nat.reduceEqDiff, reduceCtorEq, AS, t0, t1, t8, t70, t71, t72]
      refine ⟨⟨k + 1, _, rfl, by omega, hm4, by simp [hd], fun i => ?_⟩, by omega⟩
      rw [co_set _ hkd, hco i]
      by_cases hi : i = k
      · subst hi
        have := hco i
        rw [if_neg (by omega), co_get d hkd] at this
        rw [if_pos rfl, if_pos (by omega), this, co_get ss hlt, hx, ← co_get pt l0, ← co_get pt l1, ← co_get pt l2, ← co_get pt l3, hw1 0 y0 (by omega) b0, hw1 1 y1 (by omega) b1, hw1 2 y2 (by omega) b2, hw1 3 y3 (by omega) b3, hdig]
      · rw [if_neg hi]
        by_cases hik : i < k
        · rw [if_pos hik, if_pos (by omega)]
        · rw [if_neg hik, if_neg (by omega)]
    · simp (maxSteps := 1000000) (disch := omega) only [WS, List.getElem_cons_zero, List.getElem_cons_succ, Option.isNone_some, Option.isNone_none, List.getD_cons_zero, List.getD_cons_succ, I.at, atL, atO, atP, evp, evs, retV, ↓reduceIte, Nat.reduceEqDiff, reduceCtorEq, AS, t0, t1, t8, t70, t71, t72]
      refine ⟨d, hm.1, hd, fun i => ?_⟩
      rw [hco i]
      by_cases hi : i < k
      · rw [if_pos hi]
      · rw [if_neg hi, co_dg ss i (by omega), El.mul_zero, El.add_zero]
end Go.Proofs.Ytikaanmmdemaiaa.Fw
