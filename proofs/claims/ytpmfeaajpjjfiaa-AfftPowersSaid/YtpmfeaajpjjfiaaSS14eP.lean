import Derived.Test.YtpmfeaajpjjfiaaProg
import Derived.Test.YtpmfeaajpjjfiaaFwTP
import Derived.Test.YtpmfeaajpjjfiaaSS14bP
set_option linter.all false
set_option linter.unusedVariables false
set_option linter.unusedSimpArgs false
set_option maxRecDepth 100000
set_option maxHeartbeats 1000000
namespace Go.Proofs.Ytpmfeaajpjjfiaa.Fw
open Go Go.Fw Go.Proofs
attribute [local irreducible] stepI
def c_afft_addTimes : C := .seq (.seq (.ops [⟨0, (some 15), none, .mov (.t 0), []⟩, ⟨1, (some 16), none, .bin .eql (.t 15) (.c (.int .u16 0)), []⟩]) (.ite (.t 16) .ret .skip)) (.seq (.seq (.ops [⟨0, (some 17), none, .mov (.t 2), []⟩, ⟨1, (some 18), none, .len (.t 17), []⟩, ⟨2, (some 19), none, .bin .lss (.t 18) (.c (.int .i64 16)), []⟩]) (.ite (.t 19) (.seq (.seq (.ops [⟨0, (some 20), none, .mov (.t 2), []⟩, ⟨1, (some 21), none, .len (.t 20), []⟩, ⟨2, (some 22), none, .mov (.c (.int .i64 0)), []⟩]) (.block 0 (.loop (.seq (.ops [⟨0, (some 23), none, .bin .lss (.t 22) (.t 21), []⟩]) (.seq (.ite (.t 23) .skip (.exit 0)) (.seq (.block 1 (.seq (.ops [⟨0, (some 24), none, .mov (.t 22), []⟩, ⟨1, (some 25), none, .ixs 1 (.t 20) (.t 22), []⟩, ⟨2, (some 26), none, .ld (.t 25), []⟩, ⟨3, (some 6), none, .mov (.t 24), []⟩, ⟨4, (some 7), none, .mov (.t 26), []⟩]) (.dops [⟨0, (some 27), none, .mov (.t 1), []⟩, ⟨1, (some 28), none, .mov (.t 6), []⟩, ⟨2, (some 29), none, .ixs 1 (.t 27) (.t 28), []⟩, ⟨3, (some 30), none, .ld (.t 29), []⟩, ⟨4, (some 31), none, .mov (.t 0), []⟩, ⟨5, (some 32), none, .mov (.t 7), []⟩, ⟨6, (some 33), none, .call (.c (.func (.func 20) #[] #[])) [.t 31, .t 32], [3]⟩, ⟨7, (some 34), none, .bin .xor (.t 30) (.t 33), []⟩, ⟨8, (some 35), none, .ixs 1 (.t 27) (.t 28), []⟩, ⟨9, none, none, .st (.t 35) (.t 34), []⟩]))) (.ops [⟨0, (some 36), none, .bin .add (.t 22) (.c (.int .i64 1)), []⟩, ⟨1, (some 22), none, .mov (.t 36), []⟩]))))))) .ret) .skip)) (.seq (.ops [⟨0, (some 8), none, .alloc 91 (List.replicate 64 (.int .u16 0)), []⟩]) (.seq (.seq (.ops [⟨0, (some 37), none, .mov (.c (.int .i64 0)), []⟩]) (.block 2 (.loop (.seq (.ops [⟨0, (some 38), none, .bin .lss (.t 37) (.c (.int .i64 4)), []⟩]) (.seq (.ite (.t 38) .skip (.exit 2)) (.seq (.block 3 (.seq (.ops [⟨0, (some 39), none, .mov (.t 37), []⟩, ⟨1, (some 9), none, .mov (.t 39), []⟩]) (.seq (.ops [⟨0, (some 10), none, .mov (.c (.int .i64 1)), []⟩]) (.block 4 (.loop (.seq (.seq (.ops [⟨0, (some 40), none, .mov (.t 10), []⟩, ⟨1, (some 41), none, .bin .lss (.t 40) (.c (.int .i64 16)), []⟩]) (.ite (.t 41) .skip (.exit 4))) (.seq (.block 5 (.seq (.ops [⟨0, (some 44), none, .mov (.t 0), []⟩, ⟨1, (some 45), none, .mov (.t 10), []⟩, ⟨2, (some 46), none, .cnv .u16 (.t 45), []⟩, ⟨3, (some 47), none, .mov (.t 9), []⟩, ⟨4, (some 48), none, .bin .mul (.c (.int .i64 4)) (.t 47), []⟩, ⟨5, (some 49), none, .bin .shl (.t 46) (.t 48), []⟩, ⟨6, (some 50), none, .call (.c (.func (.func 20) #[] #[])) [.t 44, .t 49], []⟩, ⟨7, (some 11), none, .mov (.t 50), []⟩]) (.seq (.ops [⟨0, (some 51), none, .mov (.t 10), []⟩, ⟨1, (some 52), none, .mov (.c (.int .i64 0)), []⟩]) (.block 6 (.loop (.seq (.ops [⟨0, (some 53), none, .bin .lss (.t 52) (.t 51), []⟩]) (.seq (.ite (.t 53) .skip (.exit 6)) (.seq (.block 7 (.seq (.ops [⟨0, (some 54), none, .mov (.t 52), []⟩, ⟨1, (some 12), none, .mov (.t 54), []⟩]) (.dops [⟨0, (some 55), none, .mov (.t 9), []⟩, ⟨1, (some 56), none, .mov (.t 10), []⟩, ⟨2, (some 57), none, .mov (.t 12), []⟩, ⟨3, (some 58), none, .bin .add (.t 56) (.t 57), []⟩, ⟨4, (some 59), none, .mov (.t 11), []⟩, ⟨5, (some 60), none, .mov (.t 9), []⟩, ⟨6, (some 61), none, .mov (.t 12), []⟩, ⟨7, (some 62), none, .ixa 4 16 (.t 8) (.t 60), []⟩, ⟨8, (some 63), none, .ixa 16 1 (.t 62) (.t 61), []⟩, ⟨9, (some 64), none, .ld (.t 63), []⟩, ⟨10, (some 65), none, .bin .xor (.t 59) (.t 64), []⟩, ⟨11, (some 66), none, .ixa 4 16 (.t 8) (.t 55), []⟩, ⟨12, (some 67), none, .ixa 16 1 (.t 66) (.t 58), []⟩, ⟨13, none, none, .st (.t 67) (.t 65), []⟩]))) (.ops [⟨0, (some 68), none, .bin .add (.t 52) (.c (.int .i64 1)), []⟩, ⟨1, (some 52), none, .mov (.t 68), []⟩]))))))))) (.ops [⟨0, (some 42), none, .mov (.t 10), []⟩, ⟨1, (some 43), none, .bin .mul (.t 42) (.c (.int .i64 2)), []⟩, ⟨2, (some 10), none, .mov (.t 43), []⟩])))))))) (.ops [⟨0, (some 69), none, .bin .add (.t 37) (.c (.int .i64 1)), []⟩, ⟨1, (some 37), none, .mov (.t 69), []⟩]))))))) (.seq (.ops [⟨0, (some 70), none, .mov (.t 2), []⟩, ⟨1, (some 71), none, .len (.t 70), []⟩, ⟨2, (some 72), none, .mov (.c (.int .i64 0)), []⟩]) (.block 8 (.loop (.seq (.ops [⟨0, (some 73), none, .bin .lss (.t 72) (.t 71), []⟩]) (.seq (.ite (.t 73) .skip (.exit 8)) (.seq (.block 9 (.seq (.ops [⟨0, (some 74), none, .mov (.t 72), []⟩, ⟨1, (some 75), none, .ixs 1 (.t 70) (.t 72), []⟩, ⟨2, (some 76), none, .ld (.t 75), []⟩, ⟨3, (some 13), none, .mov (.t 74), []⟩, ⟨4, (some 14), none, .mov (.t 76), []⟩]) (.dops [⟨0, (some 77), none, .mov (.t 1), []⟩, ⟨1, (some 78), none, .mov (.t 13), []⟩, ⟨2, (some 79), none, .ixs 1 (.t 77) (.t 78), []⟩, ⟨3, (some 80), none, .ld (.t 79), []⟩, ⟨4, (some 81), none, .mov (.t 14), []⟩, ⟨5, (some 82), none, .bin .and (.t 81) (.c (.int .u16 15)), []⟩, ⟨6, (some 83), none, .ixa 4 16 (.t 8) (.c (.int .i64 0)), []⟩, ⟨7, (some 84), none, .ixa 16 1 (.t 83) (.t 82), []⟩, ⟨8, (some 85), none, .ld (.t 84), []⟩, ⟨9, (some 86), none, .mov (.t 14), []⟩, ⟨10, (some 87), none, .bin .shr (.t 86) (.c (.int .u64 4)), []⟩, ⟨11, (some 88), none, .bin .and (.t 87) (.c (.int .u16 15)), []⟩, ⟨12, (some 89), none, .ixa 4 16 (.t 8) (.c (.int .i64 1)), []⟩, ⟨13, (some 90), none, .ixa 16 1 (.t 89) (.t 88), []⟩, ⟨14, (some 91), none, .ld (.t 90), []⟩, ⟨15, (some 92), none, .bin .xor (.t 85) (.t 91), []⟩, ⟨16, (some 93), none, .mov (.t 14), []⟩, ⟨17, (some 94), none, .bin .shr (.t 93) (.c (.int .u64 8)), []⟩, ⟨18, (some 95), none, .bin .and (.t 94) (.c (.int .u16 15)), []⟩, ⟨19, (some 96), none, .ixa 4 16 (.t 8) (.c (.int .i64 2)), []⟩, ⟨20, (some 97), none, .ixa 16 1 (.t 96) (.t 95), []⟩, ⟨21, (some 98), none, .ld (.t 97), []⟩, ⟨22, (some 99), none, .bin .xor (.t 92) (.t 98), []⟩, ⟨23, (some 100), none, .mov (.t 14), []⟩, ⟨24, (some 101), none, .bin .shr (.t 100) (.c (.int .u64 12)), []⟩, ⟨25, (some 102), none, .ixa 4 16 (.t 8) (.c (.int .i64 3)), []⟩, ⟨26, (some 103), none, .ixa 16 1 (.t 102) (.t 101), []⟩, ⟨27, (some 104), none, .ld (.t 103), []⟩, ⟨28, (some 105), none, .bin .xor (.t 99) (.t 104), []⟩, ⟨29, (some 106), none, .bin .xor (.t 80) (.t 105), []⟩, ⟨30, (some 107), none, .ixs 1 (.t 77) (.t 78), []⟩, ⟨31, none, none, .st (.t 107) (.t 106), []⟩]))) (.ops [⟨0, (some 108), none, .bin .add (.t 72) (.c (.int .i64 1)), []⟩, ⟨1, (some 72), none, .mov (.t 108), []⟩]))))))))))
attribute [irreducible] c_afft_addTimes
theorem run_afft_addTimes {args : List Value} {w : World} {K : Value → World → Prop} (hn : args.length ≤ 109) (h : WP Try.prog c_afft_addTimes (endQ [] K) (initT args) w) : CallV Try.prog 51 args w K :=
  call_of follows Try.func51 (by kernel_rfl) (by kernel_rfl) hn h
end Go.Proofs.Ytpmfeaajpjjfiaa.Fw
namespace Go.Proofs.Ytpmfeaajpjjfiaa.Fw
open Go Go.Fw
theorem map_get {α : Type} [Cell α] (l : List α) {i : Nat} (h : i < l.length) (h' : i < (l.map (Cell.v : α → Value)).length) : (l.map (Cell.v : α → Value))[i] = Cell.v l[i] := by simp
theorem afft_addTimes_spec {M : List (El 16) → World → Prop} (c : El 16) (dst src : Value) (ss dd : List (El 16)) (w : World) (hW : Wr M dst) (hs : ∀ l w, M l w → Sl w src ss) (hm : M dd w) (hl : ss.length ≤ dd.length) (hb : ss.length ≤ 70368744175616) :
    CallV Try.prog 51 [.int .u16 (c.v.toNat : Int), dst, src] w fun v w' => v = .tuple #[] ∧ ∃ d', M d' w' ∧ d'.length = dd.length ∧ ∀ i, (co d').c i = (co dd).c i + c * (co ss).c i := by
  refine run_afft_addTimes (by simp) ?_
  simp only [c_afft_addTimes, WS, List.getElem_cons_zero, List.getElem_cons_succ, Option.isNone_some, Option.isNone_none, List.getD_cons_zero, List.getD_cons_succ, I.at, atL, atO, atP, evp, evs, retV, ↓reduceIte, Nat.reduceEqDiff, reduceCtorEq]
  by_cases hc0 : c = 0
  · have d1 : decide ((c.v.toNat : Int) = 0) = true := decide_eq_true ((el_zero c).mpr hc0)
    simp (maxSteps := 1000000) (disch := omega) only [WS, List.getElem_cons_zero, List.getElem_cons_succ, Option.isNone_some, Option.isNone_none, List.getD_cons_zero, List.getD_cons_succ, I.at, atL, atO, atP, evp, evs, retV, ↓reduceIte, Nat.reduceEqDiff, reduceCtorEq, AS, d1]
    exact ⟨dd, hm, rfl, fun i => by rw [hc0, El.zero_mul, El.add_zero]⟩
  have d1 : decide ((c.v.toNat : Int) = 0) = false := decide_eq_false fun e => hc0 ((el_zero c).mp e)
  by_cases h16 : ss.length < 16
  · simp (maxSteps := 1000000) (disch := omega) only [WS, List.getElem_cons_zero, List.getElem_cons_succ, Option.isNone_some, Option.isNone_none, List.getD_cons_zero, List.getD_cons_succ, I.at, atL, atO, atP, evp, evs, retV, ↓reduceIte, Nat.reduceEqDiff, reduceCtorEq, AS, d1, (hs dd w hm).Xlen]
    refine loop_of (fun t w' => t 0 = .int .u16 (c.v.toNat : Int) ∧ t 1 = dst ∧ t 20 = src ∧ t 21 = .int .i64 (ss.length : Int) ∧ ∃ (k : Nat) (d : List (El 16)), t 22 = .int .i64 (k : Int) ∧ k ≤ ss.length ∧ M d w' ∧ d.length = dd.length ∧ ∀ i, (co d).c i = if i < k then (co dd).c i + c * (co ss).c i else (co dd).c i)
      (fun t _ => ss.length - (toI (t 22)).toNat) ⟨by simp only [WS, List.getElem_cons_zero, List.getElem_cons_succ, Option.isNone_some, Option.isNone_none, List.getD_cons_zero, List.getD_cons_succ, I.at, atL, atO, atP, evp, evs, retV, ↓reduceIte, Nat.reduceEqDiff, reduceCtorEq], by simp only [WS, List.getElem_cons_zero, List.getElem_cons_succ, Option.isNone_some, Option.isNone_none, List.getD_cons_zero, List.getD_cons_succ, I.at, atL, atO, atP, evp, evs, retV, ↓reduceIte, Nat.reduceEqDiff, reduceCtorEq], by simp only [WS, List.getElem_cons_zero, List.getElem_cons_succ, Option.isNone_some, Option.isNone_none, List.getD_cons_zero, List.getD_cons_succ, I.at, atL, atO, atP, evp, evs, retV, ↓reduceIte, Nat.reduceEqDiff, reduceCtorEq], by simp only [WS, List.getElem_cons_zero, List.getElem_cons_succ, Option.isNone_some, Option.isNone_none, List.getD_cons_zero, List.getD_cons_succ, I.at, atL, atO, atP, evp, evs, retV, ↓reduceIte, Nat.reduceEqDiff, reduceCtorEq], 0, dd, rfl, by omega, hm, rfl, fun i => by rw [if_neg (by omega)]⟩ ?_
    clear hm
    rintro t w1 ⟨t0, t1, t20, t21, k, d, t22, hk, hm, hd, hco⟩
    by_cases hlt : k < ss.length
    · have hkd : k < d.length := by omega
      have hsl := hs d w1 hm
      simp (maxSteps := 1000000) (disch := omega) only [WS, List.getElem_cons_zero, List.getElem_cons_succ, Option.isNone_some, Option.isNone_none, List.getD_cons_zero, List.getD_cons_succ, I.at, atL, atO, atP, evp, evs, retV, ↓reduceIte, Nat.reduceEqDiff, reduceCtorEq, AS, t0, t1, t20, t21, t22, hsl.Xix hlt, hsl.Xld hlt, cell_e16]
      refine WP_dops ?_
      have hmd := hW.drew hm
      have hdd := hW.sl d _ hmd
      have see : Fw.sees Try.prog (.ld (.c (elP dst k))) w1.drew (.int .u16 (d[k].v.toNat : Int)) = True := hdd.sees hkd Try.prog
      simp (maxSteps := 1000000) (disch := omega) only [ES, List.mem_cons, List.not_mem_nil, implies_true, forall_const, WS, List.getElem_cons_zero, List.getElem_cons_succ, Option.isNone_some, Option.isNone_none, List.getD_cons_zero, List.getD_cons_succ, I.at, atL, atO, atP, evp, evs, retV, ↓reduceIte, Nat.reduceEqDiff, reduceCtorEq, AS, t0, t1, t20, t21, t22, hdd.Eix hkd, hdd.Eld hkd, cell_e16]
      refine E_call0 ((gf16_Mul_spec w1.drew c ss[k]).mono ?_)
      rintro _ w2 ⟨rfl, rfl⟩
      simp (maxSteps := 1000000) (disch := omega) only [ES, List.mem_cons, List.not_mem_nil, implies_true, forall_const, WS, List.getElem_cons_zero, List.getElem_cons_succ, Option.isNone_some, Option.isNone_none, List.getD_cons_zero, List.getD_cons_succ, I.at, atL, atO, atP, evp, evs, retV, ↓reduceIte, Nat.reduceEqDiff, reduceCtorEq, AS, see, xor16, hdd.Eix hkd]
      refine hW.Est hmd hkd (d[k] + c * ss[k]) fun w3 hm3 hg3 => ?_
      simp (maxSteps := 1000000) (disch := omega) only [ES, List.mem_cons, List.not_mem_nil, implies_true, forall_const, WS, List.getElem_cons_zero, List.getElem_cons_succ, Option.isNone_some, Option.isNone_none, List.getD_cons_zero, List.getD_cons_succ, I.at, atL, atO, atP, evp, evs, retV, ↓reduceIte, Nat.reduceEqDiff, reduceCtorEq, AS, t0, t1, t20, t21, t22]
      refine ⟨⟨k + 1, _, rfl, by omega, hm3, by simp [hd], fun i => ?_⟩, by omega⟩
      rw [co_set _ hkd, hco i]
      by_cases hi : i = k
      · subst hi
        have := hco i
        rw [if_neg (by omega), co_get d hkd] at this
        rw [if_pos rfl, if_pos (by omega), this, co_get ss hlt]
      · rw [if_neg hi]
        by_cases hik : i < k
        · rw [if_pos hik, if_pos (by omega)]
        · rw [if_neg hik, if_neg (by omega)]
    · simp (maxSteps := 1000000) (disch := omega) only [WS, List.getElem_cons_zero, List.getElem_cons_succ, Option.isNone_some, Option.isNone_none, List.getD_cons_zero, List.getD_cons_succ, I.at, atL, atO, atP, evp, evs, retV, ↓reduceIte, Nat.reduceEqDiff, reduceCtorEq, AS, t0, t1, t20, t21, t22]
      refine ⟨d, hm, hd, fun i => ?_⟩
      rw [hco i]
      by_cases hi : i < k
      · rw [if_pos hi]
      · rw [if_neg hi, co_dg ss i (by omega), El.mul_zero, El.add_zero]
  have hdne : dd ≠ [] := by rintro rfl; have h := hl; simp only [List.length_nil] at h; omega
  have hblt : (bs dst).block < w.heap.size := (hW.sl dd w hm).bs_lt hdne
  simp (maxSteps := 1000000) (disch := omega) only [WS, List.getElem_cons_zero, List.getElem_cons_succ, Option.isNone_some, Option.isNone_none, List.getD_cons_zero, List.getD_cons_succ, I.at, atL, atO, atP, evp, evs, retV, ↓reduceIte, Nat.reduceEqDiff, reduceCtorEq, AS, d1, (hs dd w hm).Xlen]
  refine X_alloc fun b w1 hr hbs hB => ?_
  have hr : Row w1 b ((List.replicate 64 (0 : El 16)).map Cell.v) := by rw [List.map_replicate]; exact hr
  simp (maxSteps := 1000000) (disch := omega) only [WS, List.getElem_cons_zero, List.getElem_cons_succ, Option.isNone_some, Option.isNone_none, List.getD_cons_zero, List.getD_cons_succ, I.at, atL, atO, atP, evp, evs, retV, ↓reduceIte, Nat.reduceEqDiff, reduceCtorEq, AS]
  refine loop_of (fun t w' => t 0 = .int .u16 (c.v.toNat : Int) ∧ t 1 = dst ∧ t 2 = src ∧ t 8 = .pointer (some ⟨b, 0, none⟩) ∧ RowKit.Below w.heap.size w w' ∧ ∃ (n : Nat) (pt : List (El 16)), t 37 = .int .i64 (n : Int) ∧ n ≤ 4 ∧ Row w' b (pt.map Cell.v) ∧ pt.length = 64 ∧
      (∀ m x, m < n → x < 16 → (co pt).c (16 * m + x) = want c m x) ∧ ∀ m, n ≤ m → m < 4 → (co pt).c (16 * m) = 0) (fun t _ => 4 - (toI (t 37)).toNat)
    ⟨by simp only [WS, List.getElem_cons_zero, List.getElem_cons_succ, Option.isNone_some, Option.isNone_none, List.getD_cons_zero, List.getD_cons_succ, I.at, atL, atO, atP, evp, evs, retV, ↓reduceIte, Nat.reduceEqDiff, reduceCtorEq], by simp only [WS, List.getElem_cons_zero, List.getElem_cons_succ, Option.isNone_some, Option.isNone_none, List.getD_cons_zero, List.getD_cons_succ, I.at, atL, atO, atP, evp, evs, retV, ↓reduceIte, Nat.reduceEqDiff, reduceCtorEq], by simp only [WS, List.getElem_cons_zero, List.getElem_cons_succ, Option.isNone_some, Option.isNone_none, List.getD_cons_zero, List.getD_cons_succ, I.at, atL, atO, atP, evp, evs, retV, ↓reduceIte, Nat.reduceEqDiff, reduceCtorEq], by simp only [WS, List.getElem_cons_zero, List.getElem_cons_succ, Option.isNone_some, Option.isNone_none, List.getD_cons_zero, List.getD_cons_succ, I.at, atL, atO, atP, evp, evs, retV, ↓reduceIte, Nat.reduceEqDiff, reduceCtorEq], hB, 0, _, rfl, by omega, hr, by simp, fun m x h => by omega, fun m _ _ => by rw [co_replicate]; rfl⟩ ?_
  clear hr hB
  rintro t w2 ⟨t0, t1, t2, t8, hB, n, pt, t37, hn, hr, hpl, hw1, hw2⟩
  by_cases hn4 : n < 4
  · simp (maxSteps := 1000000) (disch := omega) only [WS, List.getElem_cons_zero, List.getElem_cons_succ, Option.isNone_some, Option.isNone_none, List.getD_cons_zero, List.getD_cons_succ, I.at, atL, atO, atP, evp, evs, retV, ↓reduceIte, Nat.reduceEqDiff, reduceCtorEq, AS, t0, t1, t2, t8, t37]
    refine loop_of (fun t w' => t 0 = .int .u16 (c.v.toNat : Int) ∧ t 1 = dst ∧ t 2 = src ∧ t 8 = .pointer (some ⟨b, 0, none⟩) ∧ t 37 = .int .i64 (n : Int) ∧ t 9 = .int .i64 (n : Int) ∧ RowKit.Below w.heap.size w w' ∧ ∃ (j : Nat) (pt : List (El 16)), t 10 = .int .i64 ((2 ^ j : Nat) : Int) ∧ j ≤ 4 ∧ Row w' b (pt.map Cell.v) ∧ pt.length = 64 ∧
        (∀ m x, m < n → x < 16 → (co pt).c (16 * m + x) = want c m x) ∧ (∀ x, x < 2 ^ j → (co pt).c (16 * n + x) = want c n x) ∧ ∀ m, n < m → m < 4 → (co pt).c (16 * m) = 0) (fun t _ => 16 - (toI (t 10)).toNat)
      ⟨by simp only [WS, List.getElem_cons_zero, List.getElem_cons_succ, Option.isNone_some, Option.isNone_none, List.getD_cons_zero, List.getD_cons_succ, I.at, atL, atO, atP, evp, evs, retV, ↓reduceIte, Nat.reduceEqDiff, reduceCtorEq]; exact t0, by simp only [WS, List.getElem_cons_zero, List.getElem_cons_succ, Option.isNone_some, Option.isNone_none, List.getD_cons_zero, List.getD_cons_succ, I.at, atL, atO, atP, evp, evs, retV, ↓reduceIte, Nat.reduceEqDiff, reduceCtorEq]; exact t1, by simp only [WS, List.getElem_cons_zero, List.getElem_cons_succ, Option.isNone_some, Option.isNone_none, List.getD_cons_zero, List.getD_cons_succ, I.at, atL, atO, atP, evp, evs, retV, ↓reduceIte, Nat.reduceEqDiff, reduceCtorEq]; exact t2, by simp only [WS, List.getElem_cons_zero, List.getElem_cons_succ, Option.isNone_some, Option.isNone_none, List.getD_cons_zero, List.getD_cons_succ, I.at, atL, atO, atP, evp, evs, retV, ↓reduceIte, Nat.reduceEqDiff, reduceCtorEq]; exact t8, by simp only [WS, List.getElem_cons_zero, List.getElem_cons_succ, Option.isNone_some, Option.isNone_none, List.getD_cons_zero, List.getD_cons_succ, I.at, atL, atO, atP, evp, evs, retV, ↓reduceIte, Nat.reduceEqDiff, reduceCtorEq]; exact t37, rfl, hB, 0, pt, rfl, by omega, hr, hpl, hw1, fun x hx => by have hx0 : x = 0 := (by simpa using hx); subst hx0; rw [Nat.add_zero, hw2 n (Nat.le_refl _) hn4, want_zero], fun m h1 h2 => hw2 m (by omega) h2⟩ ?_
    clear t0 t1 t2 t8 t37 hB hr hpl hw1 hw2
    rintro t w3 ⟨t0, t1, t2, t8, t37, t9, hB, j, pt, t10, hj, hr, hpl, hw1, hw2, hw3⟩
    by_cases hj4 : j < 4
    · have hp0 := Nat.two_pow_pos j
      have hp1 : 2 ^ j ≤ 2 ^ 3 := Nat.pow_le_pow_right (by omega) (by omega)
      have hq : 2 ^ j * 2 ^ (4 * n) < 2 ^ 16 := by
        have h1 : 2 ^ (4 * n) ≤ 2 ^ 12 := Nat.pow_le_pow_right (by omega) (by omega)
        have := Nat.mul_le_mul hp1 h1
        omega
      have e1 : IntKind.i64.wrap (4 * (n : Int)) = ((4 * n : Nat) : Int) := w_mull n 4 (by show 4 * n < _; omega)
      have e2 : IntKind.u16.wrap ((2 ^ j : Nat) : Int) = ((2 ^ j : Nat) : Int) := wrap_u16 _ (by omega)
      have e3 : shlV .u16 ((2 ^ j : Nat) : Int) ((4 * n : Nat) : Int) = ((2 ^ j <<< (4 * n) : Nat) : Int) := shl_nat fits_u16 _ _ (by show 4 * n ≤ 16; omega) hq
      have e4 : ((2 ^ j <<< (4 * n) : Nat) : Int) = ((eN (2 ^ j <<< (4 * n))).v.toNat : Int) := by rw [eN_v _ (by rw [Nat.shiftLeft_eq]; omega)]
      simp (maxSteps := 1000000) (disch := omega) only [WS, List.getElem_cons_zero, List.getElem_cons_succ, Option.isNone_some, Option.isNone_none, List.getD_cons_zero, List.getD_cons_succ, I.at, atL, atO, atP, evp, evs, retV, ↓reduceIte, Nat.reduceEqDiff, reduceCtorEq, AS, t0, t1, t2, t8, t9, t10, t37, e1, e2, X_shl, Int.natCast_nonneg, e3]
      rw [e4]
      refine X_call0 ((gf16_Mul_spec w3 c (eN (2 ^ j <<< (4 * n)))).mono ?_)
      rintro _ w4 ⟨rfl, rfl⟩
      simp (maxSteps := 1000000) (disch := omega) only [WS, List.getElem_cons_zero, List.getElem_cons_succ, Option.isNone_some, Option.isNone_none, List.getD_cons_zero, List.getD_cons_succ, I.at, atL, atO, atP, evp, evs, retV, ↓reduceIte, Nat.reduceEqDiff, reduceCtorEq, AS, t0, t1, t2, t8, t9, t10, t37]
      refine loop_of (fun t w' => t 0 = .int .u16 (c.v.toNat : Int) ∧ t 1 = dst ∧ t 2 = src ∧ t 8 = .pointer (some ⟨b, 0, none⟩) ∧ t 37 = .int .i64 (n : Int) ∧ t 9 = .int .i64 (n : Int) ∧ t 10 = .int .i64 ((2 ^ j : Nat) : Int) ∧ t 11 = .int .u16 ((want c n (2 ^ j)).v.toNat : Int) ∧ t 51 = .int .i64 ((2 ^ j : Nat) : Int) ∧ RowKit.Below w.heap.size w w' ∧ ∃ (low : Nat) (pt : List (El 16)), t 52 = .int .i64 (low : Int) ∧ low ≤ 2 ^ j ∧ Row w' b (pt.map Cell.v) ∧ pt.length = 64 ∧
          (∀ m x, m < n → x < 16 → (co pt).c (16 * m + x) = want c m x) ∧ (∀ x, x < 2 ^ j + low → (co pt).c (16 * n + x) = want c n x) ∧ ∀ m, n < m → m < 4 → (co pt).c (16 * m) = 0) (fun t _ => 2 ^ j - (toI (t 52)).toNat)
        ⟨by simp only [WS, List.getElem_cons_zero, List.getElem_cons_succ, Option.isNone_some, Option.isNone_none, List.getD_cons_zero, List.getD_cons_succ, I.at, atL, atO, atP, evp, evs, retV, ↓reduceIte, Nat.reduceEqDiff, reduceCtorEq]; exact t0, by simp only [WS, List.getElem_cons_zero, List.getElem_cons_succ, Option.isNone_some, Option.isNone_none, List.getD_cons_zero, List.getD_cons_succ, I.at, atL, atO, atP, evp, evs, retV, ↓reduceIte, Nat.reduceEqDiff, reduceCtorEq]; exact t1, by simp only [WS, List.getElem_cons_zero, List.getElem_cons_succ, Option.isNone_some, Option.isNone_none, List.getD_cons_zero, List.getD_cons_succ, I.at, atL, atO, atP, evp, evs, retV, ↓reduceIte, Nat.reduceEqDiff, reduceCtorEq]; exact t2, by simp only [WS, List.getElem_cons_zero, List.getElem_cons_succ, Option.isNone_some, Option.isNone_none, List.getD_cons_zero, List.getD_cons_succ, I.at, atL, atO, atP, evp, evs, retV, ↓reduceIte, Nat.reduceEqDiff, reduceCtorEq]; exact t8, by simp only [WS, List.getElem_cons_zero, List.getElem_cons_succ, Option.isNone_some, Option.isNone_none, List.getD_cons_zero, List.getD_cons_succ, I.at, atL, atO, atP, evp, evs, retV, ↓reduceIte, Nat.reduceEqDiff, reduceCtorEq]; exact t37, by simp only [WS, List.getElem_cons_zero, List.getElem_cons_succ, Option.isNone_some, Option.isNone_none, List.getD_cons_zero, List.getD_cons_succ, I.at, atL, atO, atP, evp, evs, retV, ↓reduceIte, Nat.reduceEqDiff, reduceCtorEq]; exact t9, by simp only [WS, List.getElem_cons_zero, List.getElem_cons_succ, Option.isNone_some, Option.isNone_none, List.getD_cons_zero, List.getD_cons_succ, I.at, atL, atO, atP, evp, evs, retV, ↓reduceIte, Nat.reduceEqDiff, reduceCtorEq]; exact t10, rfl, by simp only [WS, List.getElem_cons_zero, List.getElem_cons_succ, Option.isNone_some, Option.isNone_none, List.getD_cons_zero, List.getD_cons_succ, I.at, atL, atO, atP, evp, evs, retV, ↓reduceIte, Nat.reduceEqDiff, reduceCtorEq], hB, 0, pt, rfl, by omega, hr, hpl, hw1, hw2, hw3⟩ ?_
      clear t0 t1 t2 t8 t37 t9 t10 hB hr hpl hw1 hw2 hw3
      rintro t w5 ⟨t0, t1, t2, t8, t37, t9, t10, t11, t51, hB, low, pt, t52, hlow, hr, hpl, hw1, hw2, hw3⟩
      by_cases hlt : low < 2 ^ j
      · have hi1 : 16 * n + low < pt.length := by omega
        have hi2 : 16 * n + (2 ^ j + low) < pt.length := by omega
        have hi1' : 16 * n + low < (pt.map (Cell.v : El 16 → Value)).length := by simpa using hi1
        have hi2' : 16 * n + (2 ^ j + low) < (pt.map (Cell.v : El 16 → Value)).length := by simpa using hi2
        have hrd := hr.drew
        simp (maxSteps := 1000000) (disch := omega) only [WS, List.getElem_cons_zero, List.getElem_cons_succ, Option.isNone_some, Option.isNone_none, List.getD_cons_zero, List.getD_cons_succ, I.at, atL, atO, atP, evp, evs, retV, ↓reduceIte, Nat.reduceEqDiff, reduceCtorEq, AS, t0, t1, t2, t8, t9, t10, t11, t37, t51, t52]
        refine WP_dops ?_
        have a1 : 0 + n * 16 + low * 1 = 16 * n + low := by omega
        have a2 : 0 + n * 16 + (2 ^ j + low) * 1 = 16 * n + (2 ^ j + low) := by omega
        simp (maxSteps := 1000000) (disch := omega) only [ES, List.mem_cons, List.not_mem_nil, implies_true, forall_const, WS, List.getElem_cons_zero, List.getElem_cons_succ, Option.isNone_some, Option.isNone_none, List.getD_cons_zero, List.getD_cons_succ, I.at, atL, atO, atP, evp, evs, retV, ↓reduceIte, Nat.reduceEqDiff, reduceCtorEq, w_add, addr_add0, t0, t1, t2, t8, t9, t10, t11, t37, t51, t52, E_ixa (n := 4) (sz := 16) hn4, E_ixa (n := 16) (sz := 1) (show low < 16 by omega), E_ixa (n := 16) (sz := 1) (show 2 ^ j + low < 16 by omega), a1, a2, hrd.Eld hi1', map_get pt hi1 hi1', cell_e16, xor16]
        refine Row.Est hrd hi2' (v := Cell.v (want c n (2 ^ j) + pt[16 * n + low])) rfl fun w6 hr6 hg6 => ?_
        rw [← List.map_set] at hr6
        have hB6 : RowKit.Below w.heap.size w w6 := (hB.trans ((bel_drew w5).mono hB.size)).grown hg6 hB.size fun k hk => by cases hk; exact hbs
        simp (maxSteps := 1000000) (disch := omega) only [ES, List.mem_cons, List.not_mem_nil, implies_true, forall_const, WS, List.getElem_cons_zero, List.getElem_cons_succ, Option.isNone_some, Option.isNone_none, List.getD_cons_zero, List.getD_cons_succ, I.at, atL, atO, atP, evp, evs, retV, ↓reduceIte, Nat.reduceEqDiff, reduceCtorEq, AS, t0, t1, t2, t8, t9, t10, t11, t37, t51, t52]
        have hval : want c n (2 ^ j) + pt[16 * n + low] = want c n (2 ^ j + low) := by
          rw [want_step c n j low hj4 hlt, ← co_get pt hi1, hw2 low (by omega)]
        refine ⟨⟨hB6, low + 1, _, rfl, by omega, hr6, by simp [hpl], fun m x hm hx => ?_, fun x hx => ?_, fun m h1 h2 => ?_⟩, by omega⟩
        · rw [co_set _ hi2, if_neg (by omega)]; exact hw1 m x hm hx
        · rw [co_set _ hi2]
          by_cases hx2 : x = 2 ^ j + low
          · subst hx2; rw [if_pos rfl, hval]
          · rw [if_neg (by omega)]; exact hw2 x (by omega)
        · rw [co_set _ hi2, if_neg (by omega)]; exact hw3 m h1 h2
      · have hp5 : 2 ^ (j + 1) = 2 * 2 ^ j := by rw [Nat.pow_succ, Nat.mul_comm]
        simp (maxSteps := 1000000) (disch := omega) only [WS, List.getElem_cons_zero, List.getElem_cons_succ, Option.isNone_some, Option.isNone_none, List.getD_cons_zero, List.getD_cons_succ, I.at, atL, atO, atP, evp, evs, retV, ↓reduceIte, Nat.reduceEqDiff, reduceCtorEq, AS, t0, t1, t2, t8, t9, t10, t11, t37, t51, t52]
        refine ⟨⟨hB, j + 1, pt, by rw [hp5, Nat.mul_comm], by omega, hr, hpl, hw1, fun x hx => hw2 x (by omega), hw3⟩, by simp only [Int.toNat_natCast]; omega⟩
    · obtain rfl : j = 4 := by omega
      simp (maxSteps := 1000000) (disch := omega) only [WS, List.getElem_cons_zero, List.getElem_cons_succ, Option.isNone_some, Option.isNone_none, List.getD_cons_zero, List.getD_cons_succ, I.at, atL, atO, atP, evp, evs, retV, ↓reduceIte, Nat.reduceEqDiff, reduceCtorEq, AS, t0, t1, t2, t8, t9, t10, t37, show decide (((2 ^ 4 : Nat) : Int) < 16) = false from rfl]
      refine ⟨⟨hB, n + 1, pt, rfl, by omega, hr, hpl, fun m x hm hx => ?_, fun m h1 h2 => hw3 m (by omega) h2⟩, by omega⟩
      by_cases hmn : m = n
      · subst hmn; exact hw2 x (by omega)
      · exact hw1 m x (by omega) hx
  · obtain rfl : n = 4 := by omega
    have hm2 : M dd w2 := hW.up dd w w2 hm hB
    have hW2 := hW.row (pt.map Cell.v) (b := b) (by omega)
    simp (maxSteps := 1000000) (disch := omega) only [WS, List.getElem_cons_zero, List.getElem_cons_succ, Option.isNone_some, Option.isNone_none, List.getD_cons_zero, List.getD_cons_succ, I.at, atL, atO, atP, evp, evs, retV, ↓reduceIte, Nat.reduceEqDiff, reduceCtorEq, AS, t0, t1, t2, t8, t37, show decide (((4 : Nat) : Int) < 4) = false from rfl, (hs dd w2 hm2).Xlen]
    refine loop_of (fun t w' => t 0 = .int .u16 (c.v.toNat : Int) ∧ t 1 = dst ∧ t 70 = src ∧ t 71 = .int .i64 (ss.length : Int) ∧ t 8 = .pointer (some ⟨b, 0, none⟩) ∧ ∃ (k : Nat) (d : List (El 16)), t 72 = .int .i64 (k : Int) ∧ k ≤ ss.length ∧ (M d w' ∧ Row w' b (pt.map Cell.v)) ∧ d.length = dd.length ∧ ∀ i, (co d).c i = if i < k then (co dd).c i + c * (co ss).c i else (co dd).c i)
      (fun t _ => ss.length - (toI (t 72)).toNat) ⟨by simp only [WS, List.getElem_cons_zero, List.getElem_cons_succ, Option.isNone_some, Option.isNone_none, List.getD_cons_zero, List.getD_cons_succ, I.at, atL, atO, atP, evp, evs, retV, ↓reduceIte, Nat.reduceEqDiff, reduceCtorEq]; exact t0, by simp only [WS, List.getElem_cons_zero, List.getElem_cons_succ, Option.isNone_some, Option.isNone_none, List.getD_cons_zero, List.getD_cons_succ, I.at, atL, atO, atP, evp, evs, retV, ↓reduceIte, Nat.reduceEqDiff, reduceCtorEq]; exact t1, by simp only [WS, List.getElem_cons_zero, List.getElem_cons_succ, Option.isNone_some, Option.isNone_none, List.getD_cons_zero, List.getD_cons_succ, I.at, atL, atO, atP, evp, evs, retV, ↓reduceIte, Nat.reduceEqDiff, reduceCtorEq], by simp only [WS, List.getElem_cons_zero, List.getElem_cons_succ, Option.isNone_some, Option.isNone_none, List.getD_cons_zero, List.getD_cons_succ, I.at, atL, atO, atP, evp, evs, retV, ↓reduceIte, Nat.reduceEqDiff, reduceCtorEq], by simp only [WS, List.getElem_cons_zero, List.getElem_cons_succ, Option.isNone_some, Option.isNone_none, List.getD_cons_zero, List.getD_cons_succ, I.at, atL, atO, atP, evp, evs, retV, ↓reduceIte, Nat.reduceEqDiff, reduceCtorEq]; exact t8, 0, dd, rfl, by omega, ⟨hm2, hr⟩, rfl, fun i => by rw [if_neg (by omega)]⟩ ?_
    clear hm hm2 hr hB t0 t1 t2 t8 t37
    rintro t w3 ⟨t0, t1, t70, t71, t8, k, d, t72, hk, hm, hd, hco⟩
    by_cases hlt : k < ss.length
    · have hkd : k < d.length := by omega
      have hsl := hs d w3 hm.1
      simp (maxSteps := 1000000) (disch := omega) only [WS, List.getElem_cons_zero, List.getElem_cons_succ, Option.isNone_some, Option.isNone_none, List.getD_cons_zero, List.getD_cons_succ, I.at, atL, atO, atP, evp, evs, retV, ↓reduceIte, Nat.reduceEqDiff, reduceCtorEq, AS, t0, t1, t8, t70, t71, t72, hsl.Xix hlt, hsl.Xld hlt, cell_e16]
      refine WP_dops ?_
      have hmd := hW2.drew hm
      have hdd := hW2.sl d _ hmd
      have hrd := hmd.2
      generalize hx : ss[k] = x
      have hxl := x.v.isLt
      have b0 : x.v.toNat &&& 15 < 16 := Nat.and_lt_two_pow (n := 4) _ (by decide)
      have b1 : (x.v.toNat >>> 4) &&& 15 < 16 := Nat.and_lt_two_pow (n := 4) _ (by decide)
      have b2 : (x.v.toNat >>> 8) &&& 15 < 16 := Nat.and_lt_two_pow (n := 4) _ (by decide)
      have b3 : x.v.toNat >>> 12 < 16 := by rw [Nat.shiftRight_eq_div_pow]; omega
      have c0 : bitsOp .and .u16 (x.v.toNat : Int) 15 = ((x.v.toNat &&& 15 : Nat) : Int) := bits_and fits_u16 (b := 15) hxl (by decide)
      have c1 : bitsOp .and .u16 ((x.v.toNat >>> 4 : Nat) : Int) 15 = (((x.v.toNat >>> 4) &&& 15 : Nat) : Int) := bits_and fits_u16 (b := 15) (by rw [Nat.shiftRight_eq_div_pow]; omega) (by decide)
      have c2 : bitsOp .and .u16 ((x.v.toNat >>> 8 : Nat) : Int) 15 = (((x.v.toNat >>> 8) &&& 15 : Nat) : Int) := bits_and fits_u16 (b := 15) (by rw [Nat.shiftRight_eq_div_pow]; omega) (by decide)
      have s1 : shrV .u16 (x.v.toNat : Int) 4 = ((x.v.toNat >>> 4 : Nat) : Int) := shr_nat .u16 _ 4 (by decide)
      have s2 : shrV .u16 (x.v.toNat : Int) 8 = ((x.v.toNat >>> 8 : Nat) : Int) := shr_nat .u16 _ 8 (by decide)
      have s3 : shrV .u16 (x.v.toNat : Int) 12 = ((x.v.toNat >>> 12 : Nat) : Int) := shr_nat .u16 _ 12 (by decide)
      have hdig := want_digits c x
      generalize (x.v.toNat &&& 15) = y0 at *
      generalize (x.v.toNat >>> 4) &&& 15 = y1 at *
      generalize (x.v.toNat >>> 8) &&& 15 = y2 at *
      generalize hz1 : x.v.toNat >>> 4 = z1 at *
      generalize hz2 : x.v.toNat >>> 8 = z2 at *
      generalize x.v.toNat >>> 12 = y3 at *
      have l0 : 16 * 0 + y0 < pt.length := by omega
      have l1 : 16 * 1 + y1 < pt.length := by omega
      have l2 : 16 * 2 + y2 < pt.length := by omega
      have l3 : 16 * 3 + y3 < pt.length := by omega
      have m0 : 16 * 0 + y0 < (pt.map (Cell.v : El 16 → Value)).length := by simpa using l0
      have m1 : 16 * 1 + y1 < (pt.map (Cell.v : El 16 → Value)).length := by simpa using l1
      have m2 : 16 * 2 + y2 < (pt.map (Cell.v : El 16 → Value)).length := by simpa using l2
      have m3 : 16 * 3 + y3 < (pt.map (Cell.v : El 16 → Value)).length := by simpa using l3
      have a0 : 0 + 0 * 16 + y0 * 1 = 16 * 0 + y0 := by omega
      have a1 : 0 + 1 * 16 + y1 * 1 = 16 * 1 + y1 := by omega
      have a2 : 0 + 2 * 16 + y2 * 1 = 16 * 2 + y2 := by omega
      have a3 : 0 + 3 * 16 + y3 * 1 = 16 * 3 + y3 := by omega
      simp (maxSteps := 1000000) (disch := omega) only [ES, List.mem_cons, List.not_mem_nil, implies_true, forall_const, WS, List.getElem_cons_zero, List.getElem_cons_succ, Option.isNone_some, Option.isNone_none, List.getD_cons_zero, List.getD_cons_succ, I.at, atL, atO, atP, evp, evs, retV, ↓reduceIte, Nat.reduceEqDiff, reduceCtorEq, addr_add0, t0, t1, t8, t70, t71, t72, hx, hdd.Eix hkd, hdd.Eld hkd, cell_e16, E_shr, show ((0 : Int) ≤ 4) = True from eq_true (by decide), show ((0 : Int) ≤ 8) = True from eq_true (by decide), show ((0 : Int) ≤ 12) = True from eq_true (by decide), c0, s1, c1, s2, c2, s3,
        E_ixac (n := 4) (sz := 16) 0 0 rfl (by decide), E_ixac (n := 4) (sz := 16) 1 1 rfl (by decide), E_ixac (n := 4) (sz := 16) 2 2 rfl (by decide), E_ixac (n := 4) (sz := 16) 3 3 rfl (by decide), E_ixa (n := 16) (sz := 1) b0, E_ixa (n := 16) (sz := 1) b1, E_ixa (n := 16) (sz := 1) b2, E_ixa (n := 16) (sz := 1) b3, a0, a1, a2, a3,
        hrd.Eld m0, hrd.Eld m1, hrd.Eld m2, hrd.Eld m3, map_get pt l0 m0, map_get pt l1 m1, map_get pt l2 m2, map_get pt l3 m3, xor16]
      refine hW2.Est hmd hkd _ fun w4 hm4 hg4 => ?_
      simp (maxSteps := 1000000) (disch := omega) only [ES, List.mem_cons, List.not_mem_nil, implies_true, forall_const, WS, List.getElem_cons_zero, List.getElem_cons_succ, Option.isNone_some, Option.isNone_none, List.getD_cons_zero, List.getD_cons_succ, I.at, atL, atO, atP, evp, evs, retV, ↓reduceIte, Nat.reduceEqDiff, reduceCtorEq, AS, t0, t1, t8, t70, t71, t72]
      refine ⟨⟨k + 1, _, rfl, by omega, hm4, by simp [hd], fun i => ?_⟩, by omega⟩
      rw [co_set _ hkd, hco i]
      by_cases hi : i = k
      · subst hi
        have := hco i
        rw [if_neg (by omega), co_get d hkd] at this
        rw [if_pos rfl, if_pos (by omega), this, co_get ss hlt, hx, ← co_get pt l0, ← co_get pt l1, ← co_get pt l2, ← co_get pt l3, hw1 0 y0 (by omega) b0, hw1 1 y1 (by omega) b1, hw1 2 y2 (by omega) b2, hw1 3 y3 (by omega) b3, hdig]
      · rw [if_neg hi]
        by_cases hik : i < k
        · rw [if_pos hik, if_pos (by omega)]
        · rw [if_neg hik, if_neg (by omega)]
    · simp (maxSteps := 1000000) (disch := omega) only [WS, List.getElem_cons_zero, List.getElem_cons_succ, Option.isNone_some, Option.isNone_none, List.getD_cons_zero, List.getD_cons_succ, I.at, atL, atO, atP, evp, evs, retV, ↓reduceIte, Nat.reduceEqDiff, reduceCtorEq, AS, t0, t1, t8, t70, t71, t72]
      refine ⟨d, hm.1, hd, fun i => ?_⟩
      rw [hco i]
      by_cases hi : i < k
      · rw [if_pos hi]
      · rw [if_neg hi, co_dg ss i (by omega), El.mul_zero, El.add_zero]
end Go.Proofs.Ytpmfeaajpjjfiaa.Fw

set_option linter.unusedVariables false
set_option linter.unusedSimpArgs false
set_option maxRecDepth 100000
set_option maxHeartbeats 1000000
namespace Go.Proofs.Ytpmfeaajpjjfiaa.Fw
open Go Go.Fw Go.Proofs
attribute [local irreducible] stepI
def c_afft_inverse : C := .seq (.seq (.ops [⟨0, (some 8), none, .mov (.t 1), []⟩, ⟨1, (some 9), none, .len (.t 8), []⟩, ⟨2, (some 10), none, .mov (.c (.int .i64 0)), []⟩]) (.block 0 (.loop (.seq (.ops [⟨0, (some 11), none, .bin .lss (.t 10) (.t 9), []⟩]) (.seq (.ite (.t 11) .skip (.exit 0)) (.seq (.block 1 (.seq (.ops [⟨0, (some 12), none, .mov (.t 10), []⟩, ⟨1, (some 13), none, .ixs 1 (.t 8) (.t 10), []⟩, ⟨2, (some 14), none, .ld (.t 13), []⟩, ⟨3, (some 6), none, .mov (.t 12), []⟩, ⟨4, (some 7), none, .mov (.t 14), []⟩]) (.ops [⟨0, (some 15), none, .mov (.t 2), []⟩, ⟨1, (some 16), none, .mov (.t 6), []⟩, ⟨2, (some 17), none, .ixs 1 (.t 15) (.t 16), []⟩, ⟨3, (some 18), none, .ld (.t 17), []⟩, ⟨4, (some 19), none, .mov (.t 7), []⟩, ⟨5, (some 20), none, .bin .xor (.t 18) (.t 19), []⟩, ⟨6, (some 21), none, .ixs 1 (.t 15) (.t 16), []⟩, ⟨7, none, none, .st (.t 21) (.t 20), []⟩]))) (.ops [⟨0, (some 22), none, .bin .add (.t 10) (.c (.int .i64 1)), []⟩, ⟨1, (some 10), none, .mov (.t 22), []⟩]))))))) (.ops [⟨0, (some 23), none, .mov (.t 0), []⟩, ⟨1, (some 24), none, .mov (.t 1), []⟩, ⟨2, (some 25), none, .mov (.t 2), []⟩, ⟨3, (some 26), none, .call (.c (.func (.func 51) #[] #[])) [.t 23, .t 24, .t 25], []⟩])
attribute [irreducible] c_afft_inverse
theorem run_afft_inverse {args : List Value} {w : World} {K : Value → World → Prop} (hn : args.length ≤ 27) (h : WP Try.prog c_afft_inverse (endQ [] K) (initT args) w) : CallV Try.prog 36 args w K :=
  call_of follows Try.func36 (by kernel_rfl) (by kernel_rfl) hn h
def c_afft_forward : C := .seq (.ops [⟨0, (some 8), none, .mov (.t 0), []⟩, ⟨1, (some 9), none, .mov (.t 1), []⟩, ⟨2, (some 10), none, .mov (.t 2), []⟩, ⟨3, (some 11), none, .call (.c (.func (.func 51) #[] #[])) [.t 8, .t 9, .t 10], []⟩]) (.seq (.ops [⟨0, (some 12), none, .mov (.t 1), []⟩, ⟨1, (some 13), none, .len (.t 12), []⟩, ⟨2, (some 14), none, .mov (.c (.int .i64 0)), []⟩]) (.block 0 (.loop (.seq (.ops [⟨0, (some 15), none, .bin .lss (.t 14) (.t 13), []⟩]) (.seq (.ite (.t 15) .skip (.exit 0)) (.seq (.block 1 (.seq (.ops [⟨0, (some 16), none, .mov (.t 14), []⟩, ⟨1, (some 17), none, .ixs 1 (.t 12) (.t 14), []⟩, ⟨2, (some 18), none, .ld (.t 17), []⟩, ⟨3, (some 6), none, .mov (.t 16), []⟩, ⟨4, (some 7), none, .mov (.t 18), []⟩]) (.ops [⟨0, (some 19), none, .mov (.t 2), []⟩, ⟨1, (some 20), none, .mov (.t 6), []⟩, ⟨2, (some 21), none, .ixs 1 (.t 19) (.t 20), []⟩, ⟨3, (some 22), none, .ld (.t 21), []⟩, ⟨4, (some 23), none, .mov (.t 7), []⟩, ⟨5, (some 24), none, .bin .xor (.t 22) (.t 23), []⟩, ⟨6, (some 25), none, .ixs 1 (.t 19) (.t 20), []⟩, ⟨7, none, none, .st (.t 25) (.t 24), []⟩]))) (.ops [⟨0, (some 26), none, .bin .add (.t 14) (.c (.int .i64 1)), []⟩, ⟨1, (some 14), none, .mov (.t 26), []⟩])))))))
attribute [irreducible] c_afft_forward
theorem run_afft_forward {args : List Value} {w : World} {K : Value → World → Prop} (hn : args.length ≤ 27) (h : WP Try.prog c_afft_forward (endQ [] K) (initT args) w) : CallV Try.prog 39 args w K :=
  call_of follows Try.func39 (by kernel_rfl) (by kernel_rfl) hn h
end Go.Proofs.Ytpmfeaajpjjfiaa.Fw
namespace Go.Proofs.Ytpmfeaajpjjfiaa.Fw
open Go Go.Fw
theorem afft_forward_spec {M : List (El 16) → List (El 16) → World → Prop} (c : El 16) (s1 s2 : Value) (a b : List (El 16)) (w : World) (h1 : ∀ b, Wr (fun a w => M a b w) s1) (h2 : ∀ a, Wr (fun b w => M a b w) s2) (hm : M a b w) (hl : a.length = b.length) (hb : a.length ≤ 70368744175616) :
    CallV Try.prog 39 [.int .u16 (c.v.toNat : Int), s1, s2] w fun v w' => v = .tuple #[] ∧ ∃ a' b', M a' b' w' ∧ a'.length = a.length ∧ b'.length = b.length ∧ (∀ i, (co a').c i = (co a).c i + c * (co b).c i) ∧ ∀ i, (co b').c i = (co a).c i + c * (co b).c i + (co b).c i := by
  refine run_afft_forward (by simp) ?_
  simp only [c_afft_forward, WS, List.getElem_cons_zero, List.getElem_cons_succ, Option.isNone_some, Option.isNone_none, List.getD_cons_zero, List.getD_cons_succ, I.at, atL, atO, atP, evp, evs, retV, ↓reduceIte, Nat.reduceEqDiff, reduceCtorEq]
  refine X_call0 ((afft_addTimes_spec (M := fun a w => M a b w) c s1 s2 b a w (h1 b) (fun l w h => (h2 l).sl b w h) hm (by omega) (by omega)).mono ?_)
  rintro _ w1 ⟨rfl, a', hm, ha, hca⟩
  have hs1 := (h1 b).sl a' w1 hm
  simp (maxSteps := 1000000) (disch := omega) only [WS, List.getElem_cons_zero, List.getElem_cons_succ, Option.isNone_some, Option.isNone_none, List.getD_cons_zero, List.getD_cons_succ, I.at, atL, atO, atP, evp, evs, retV, ↓reduceIte, Nat.reduceEqDiff, reduceCtorEq, AS, hs1.Xlen]
  refine loop_of (fun t w' => t 12 = s1 ∧ t 13 = .int .i64 (a'.length : Int) ∧ t 2 = s2 ∧ ∃ (k : Nat) (d : List (El 16)), t 14 = .int .i64 (k : Int) ∧ k ≤ a'.length ∧ M a' d w' ∧ d.length = b.length ∧ ∀ i, (co d).c i = if i < k then (co a').c i + (co b).c i else (co b).c i)
    (fun t _ => a'.length - (toI (t 14)).toNat) ⟨by simp only [WS, List.getElem_cons_zero, List.getElem_cons_succ, Option.isNone_some, Option.isNone_none, List.getD_cons_zero, List.getD_cons_succ, I.at, atL, atO, atP, evp, evs, retV, ↓reduceIte, Nat.reduceEqDiff, reduceCtorEq], by simp only [WS, List.getElem_cons_zero, List.getElem_cons_succ, Option.isNone_some, Option.isNone_none, List.getD_cons_zero, List.getD_cons_succ, I.at, atL, atO, atP, evp, evs, retV, ↓reduceIte, Nat.reduceEqDiff, reduceCtorEq], by simp only [WS, List.getElem_cons_zero, List.getElem_cons_succ, Option.isNone_some, Option.isNone_none, List.getD_cons_zero, List.getD_cons_succ, I.at, atL, atO, atP, evp, evs, retV, ↓reduceIte, Nat.reduceEqDiff, reduceCtorEq], 0, b, rfl, by omega, hm, rfl, fun i => by rw [if_neg (by omega)]⟩ ?_
  clear hm hs1
  rintro t w2 ⟨t12, t13, t2, k, d, t14, hk, hm, hd, hco⟩
  by_cases hlt : k < a'.length
  · have hkd : k < d.length := by omega
    have hs1 := (h1 d).sl a' w2 hm
    have hs2 := (h2 a').sl d w2 hm
    simp (maxSteps := 1000000) (disch := omega) only [WS, List.getElem_cons_zero, List.getElem_cons_succ, Option.isNone_some, Option.isNone_none, List.getD_cons_zero, List.getD_cons_succ, I.at, atL, atO, atP, evp, evs, retV, ↓reduceIte, Nat.reduceEqDiff, reduceCtorEq, AS, t12, t13, t2, t14, hs1.Xix hlt, hs1.Xld hlt, hs2.Xix hkd, hs2.Xld hkd, cell_e16, xor16]
    refine (h2 a').Xst hm hkd (d[k] + a'[k]) fun w3 hm3 hg3 => ?_
    simp (maxSteps := 1000000) (disch := omega) only [WS, List.getElem_cons_zero, List.getElem_cons_succ, Option.isNone_some, Option.isNone_none, List.getD_cons_zero, List.getD_cons_succ, I.at, atL, atO, atP, evp, evs, retV, ↓reduceIte, Nat.reduceEqDiff, reduceCtorEq, AS, t12, t13, t2, t14]
    refine ⟨⟨k + 1, _, rfl, by omega, hm3, by simp [hd], fun i => ?_⟩, by omega⟩
    rw [co_set _ hkd, hco i]
    by_cases hi : i = k
    · subst hi
      have := hco i
      rw [if_neg (by omega), co_get d hkd] at this
      rw [if_pos rfl, if_pos (by omega), this, co_get a' hlt, El.add_comm]
    · rw [if_neg hi]
      by_cases hik : i < k
      · rw [if_pos hik, if_pos (by omega)]
      · rw [if_neg hik, if_neg (by omega)]
  · simp (maxSteps := 1000000) (disch := omega) only [WS, List.getElem_cons_zero, List.getElem_cons_succ, Option.isNone_some, Option.isNone_none, List.getD_cons_zero, List.getD_cons_succ, I.at, atL, atO, atP, evp, evs, retV, ↓reduceIte, Nat.reduceEqDiff, reduceCtorEq, AS, t12, t13, t2, t14]
    refine ⟨a', d, hm, ha, hd, hca, fun i => ?_⟩
    rw [hco i, ← hca i]
    by_cases hi : i < k
    · rw [if_pos hi]
    · rw [if_neg hi, co_dg a' i (by omega), co_dg b i (by omega), El.add_zero]
theorem afft_inverse_spec {M : List (El 16) → List (El 16) → World → Prop} (c : El 16) (s1 s2 : Value) (a b : List (El 16)) (w : World) (h1 : ∀ b, Wr (fun a w => M a b w) s1) (h2 : ∀ a, Wr (fun b w => M a b w) s2) (hm : M a b w) (hl : a.length = b.length) (hb : a.length ≤ 70368744175616) :
    CallV Try.prog 36 [.int .u16 (c.v.toNat : Int), s1, s2] w fun v w' => v = .tuple #[] ∧ ∃ a' b', M a' b' w' ∧ a'.length = a.length ∧ b'.length = b.length ∧ (∀ i, (co a').c i = (co a).c i + c * ((co a).c i + (co b).c i)) ∧ ∀ i, (co b').c i = (co a).c i + (co b).c i := by
  refine run_afft_inverse (by simp) ?_
  have hs1 := (h1 b).sl a w hm
  simp only [c_afft_inverse, WS, List.getElem_cons_zero, List.getElem_cons_succ, Option.isNone_some, Option.isNone_none, List.getD_cons_zero, List.getD_cons_succ, I.at, atL, atO, atP, evp, evs, retV, ↓reduceIte, Nat.reduceEqDiff, reduceCtorEq, hs1.Xlen]
  refine loop_of (fun t w' => t 0 = .int .u16 (c.v.toNat : Int) ∧ t 1 = s1 ∧ t 8 = s1 ∧ t 9 = .int .i64 (a.length : Int) ∧ t 2 = s2 ∧ ∃ (k : Nat) (d : List (El 16)), t 10 = .int .i64 (k : Int) ∧ k ≤ a.length ∧ M a d w' ∧ d.length = b.length ∧ ∀ i, (co d).c i = if i < k then (co a).c i + (co b).c i else (co b).c i)
    (fun t _ => a.length - (toI (t 10)).toNat) ⟨by simp only [WS, List.getElem_cons_zero, List.getElem_cons_succ, Option.isNone_some, Option.isNone_none, List.getD_cons_zero, List.getD_cons_succ, I.at, atL, atO, atP, evp, evs, retV, ↓reduceIte, Nat.reduceEqDiff, reduceCtorEq], by simp only [WS, List.getElem_cons_zero, List.getElem_cons_succ, Option.isNone_some, Option.isNone_none, List.getD_cons_zero, List.getD_cons_succ, I.at, atL, atO, atP, evp, evs, retV, ↓reduceIte, Nat.reduceEqDiff, reduceCtorEq], by simp only [WS, List.getElem_cons_zero, List.getElem_cons_succ, Option.isNone_some, Option.isNone_none, List.getD_cons_zero, List.getD_cons_succ, I.at, atL, atO, atP, evp, evs, retV, ↓reduceIte, Nat.reduceEqDiff, reduceCtorEq], by simp only [WS, List.getElem_cons_zero, List.getElem_cons_succ, Option.isNone_some, Option.isNone_none, List.getD_cons_zero, List.getD_cons_succ, I.at, atL, atO, atP, evp, evs, retV, ↓reduceIte, Nat.reduceEqDiff, reduceCtorEq], by simp only [WS, List.getElem_cons_zero, List.getElem_cons_succ, Option.isNone_some, Option.isNone_none, List.getD_cons_zero, List.getD_cons_succ, I.at, atL, atO, atP, evp, evs, retV, ↓reduceIte, Nat.reduceEqDiff, reduceCtorEq], 0, b, rfl, by omega, hm, rfl, fun i => by rw [if_neg (by omega)]⟩ ?_
  clear hm hs1
  rintro t w2 ⟨t0, t1, t8, t9, t2, k, d, t10, hk, hm, hd, hco⟩
  by_cases hlt : k < a.length
  · have hkd : k < d.length := by omega
    have hs1 := (h1 d).sl a w2 hm
    have hs2 := (h2 a).sl d w2 hm
    simp (maxSteps := 1000000) (disch := omega) only [WS, List.getElem_cons_zero, List.getElem_cons_succ, Option.isNone_some, Option.isNone_none, List.getD_cons_zero, List.getD_cons_succ, I.at, atL, atO, atP, evp, evs, retV, ↓reduceIte, Nat.reduceEqDiff, reduceCtorEq, AS, t0, t1, t8, t9, t2, t10, hs1.Xix hlt, hs1.Xld hlt, hs2.Xix hkd, hs2.Xld hkd, cell_e16, xor16]
    refine (h2 a).Xst hm hkd (d[k] + a[k]) fun w3 hm3 hg3 => ?_
    simp (maxSteps := 1000000) (disch := omega) only [WS, List.getElem_cons_zero, List.getElem_cons_succ, Option.isNone_some, Option.isNone_none, List.getD_cons_zero, List.getD_cons_succ, I.at, atL, atO, atP, evp, evs, retV, ↓reduceIte, Nat.reduceEqDiff, reduceCtorEq, AS, t0, t1, t8, t9, t2, t10]
    refine ⟨⟨k + 1, _, rfl, by omega, hm3, by simp [hd], fun i => ?_⟩, by omega⟩
    rw [co_set _ hkd, hco i]
    by_cases hi : i = k
    · subst hi
      have := hco i
      rw [if_neg (by omega), co_get d hkd] at this
      rw [if_pos rfl, if_pos (by omega), this, co_get a hlt, El.add_comm]
    · rw [if_neg hi]
      by_cases hik : i < k
      · rw [if_pos hik, if_pos (by omega)]
      · rw [if_neg hik, if_neg (by omega)]
  · simp (maxSteps := 1000000) (disch := omega) only [WS, List.getElem_cons_zero, List.getElem_cons_succ, Option.isNone_some, Option.isNone_none, List.getD_cons_zero, List.getD_cons_succ, I.at, atL, atO, atP, evp, evs, retV, ↓reduceIte, Nat.reduceEqDiff, reduceCtorEq, AS, t0, t1, t8, t9, t2, t10]
    refine X_call0 ((afft_addTimes_spec (M := fun a w => M a d w) c s1 s2 d a w2 (h1 d) (fun l w h => (h2 l).sl d w h) hm (by omega) (by omega)).mono ?_)
    rintro _ w3 ⟨rfl, a', hm, ha, hca⟩
    simp (maxSteps := 1000000) (disch := omega) only [WS, List.getElem_cons_zero, List.getElem_cons_succ, Option.isNone_some, Option.isNone_none, List.getD_cons_zero, List.getD_cons_succ, I.at, atL, atO, atP, evp, evs, retV, ↓reduceIte, Nat.reduceEqDiff, reduceCtorEq, AS]
    have hd2 : ∀ i, (co d).c i = (co a).c i + (co b).c i := fun i => by
      rw [hco i]
      by_cases hi : i < k
      · rw [if_pos hi]
      · rw [if_neg hi, co_dg a i (by omega), co_dg b i (by omega), El.add_zero]
    exact ⟨a', d, hm, ha, hd, fun i => by rw [hca i, hd2 i], hd2⟩
end Go.Proofs.Ytpmfeaajpjjfiaa.Fw

set_option linter.unusedVariables false
set_option linter.unusedSimpArgs false
set_option maxRecDepth 100000
set_option maxHeartbeats 1000000
namespace Go.Proofs.Ytpmfeaajpjjfiaa.Fw
open Go Go.Fw Go.Proofs
attribute [local irreducible] stepI
def c_afft_Forward : C := .seq (.ops [⟨0, (some 4), none, .mov (.c (.slice none 0 0)), []⟩, ⟨1, (some 5), none, .mov (.c (.int .i64 0)), []⟩]) (.seq (.ops [⟨0, (some 11), none, .mov (.t 0), []⟩, ⟨1, (some 12), none, .len (.t 11), []⟩, ⟨2, (some 6), none, .mov (.t 12), []⟩]) (.seq (.block 0 (.seq (.ops [⟨0, (some 14), none, .mov (.t 6), []⟩, ⟨1, (some 15), none, .call (.c (.func (.func 34) #[] #[])) [.t 14], []⟩, ⟨2, (some 16), none, .un .not (.t 15), []⟩, ⟨3, (some 13), none, .mov (.t 16), []⟩]) (.ite (.t 13) (.seq (.ops [⟨0, (some 4), none, .mov (.c (.slice none 0 0)), []⟩, ⟨1, (some 5), none, .mov (.c (.int .i64 130)), []⟩]) .ret) (.seq (.ops [⟨0, (some 18), none, .mov (.t 1), []⟩, ⟨1, (some 19), none, .mov (.t 6), []⟩, ⟨2, (some 20), none, .mov (.t 6), []⟩, ⟨3, (some 21), none, .call (.c (.func (.func 35) #[] #[])) [.t 18, .t 19, .t 20], []⟩, ⟨4, (some 22), none, .un .not (.t 21), []⟩, ⟨5, (some 17), none, .mov (.t 22), []⟩]) (.ite (.t 17) (.seq (.ops [⟨0, (some 4), none, .mov (.c (.slice none 0 0)), []⟩, ⟨1, (some 5), none, .mov (.c (.int .i64 140)), []⟩]) .ret) .skip))))) (.seq (.ops [⟨0, (some 23), none, .mov (.t 0), []⟩, ⟨1, (some 24), none, .app 31 2 [.int .u16 0] (.c (.slice none 0 0)) (.t 23), []⟩, ⟨2, (some 7), none, .mov (.t 24), []⟩]) (.seq (.seq (.ops [⟨0, (some 25), none, .mov (.t 6), []⟩, ⟨1, (some 26), none, .call (.c (.func (.func 38) #[] #[])) [.t 25], []⟩, ⟨2, (some 27), none, .mov (.t 6), []⟩, ⟨3, (some 28), none, .bin .quo (.t 27) (.c (.int .i64 2)), []⟩, ⟨4, (some 8), none, .mov (.t 26), []⟩, ⟨5, (some 9), none, .mov (.t 28), []⟩]) (.block 1 (.loop (.seq (.seq (.ops [⟨0, (some 29), none, .mov (.t 9), []⟩, ⟨1, (some 30), none, .bin .gtr (.t 29) (.c (.int .i64 0)), []⟩]) (.ite (.t 30) .skip (.exit 1))) (.seq (.block 2 (.seq (.ops [⟨0, (some 10), none, .mov (.c (.int .i64 0)), []⟩]) (.block 3 (.loop (.seq (.seq (.ops [⟨0, (some 35), none, .mov (.t 10), []⟩, ⟨1, (some 36), none, .mov (.t 6), []⟩, ⟨2, (some 37), none, .bin .lss (.t 35) (.t 36), []⟩]) (.ite (.t 37) .skip (.exit 3))) (.seq (.block 4 (.dops [⟨0, (some 42), none, .mov (.t 8), []⟩, ⟨1, (some 43), none, .mov (.t 1), []⟩, ⟨2, (some 44), none, .mov (.t 10), []⟩, ⟨3, (some 45), none, .bin .add (.t 43) (.t 44), []⟩, ⟨4, (some 46), none, .call (.c (.func (.func 37) #[] #[])) [.t 42, .t 45], []⟩, ⟨5, (some 47), none, .mov (.t 7), []⟩, ⟨6, (some 48), none, .mov (.t 10), []⟩, ⟨7, (some 49), none, .mov (.t 10), []⟩, ⟨8, (some 50), none, .mov (.t 9), []⟩, ⟨9, (some 51), none, .bin .add (.t 49) (.t 50), []⟩, ⟨10, (some 52), none, .slc 1 (.t 47) (some (.t 48)) (some (.t 51)) none, []⟩, ⟨11, (some 53), none, .mov (.t 7), []⟩, ⟨12, (some 54), none, .mov (.t 10), []⟩, ⟨13, (some 55), none, .mov (.t 9), []⟩, ⟨14, (some 56), none, .bin .add (.t 54) (.t 55), []⟩, ⟨15, (some 57), none, .mov (.t 10), []⟩, ⟨16, (some 58), none, .mov (.t 9), []⟩, ⟨17, (some 59), none, .bin .mul (.c (.int .i64 2)) (.t 58), []⟩, ⟨18, (some 60), none, .bin .add (.t 57) (.t 59), []⟩, ⟨19, (some 61), none, .slc 1 (.t 53) (some (.t 56)) (some (.t 60)) none, []⟩, ⟨20, (some 62), none, .call (.c (.func (.func 39) #[] #[])) [.t 46, .t 52, .t 61], []⟩])) (.ops [⟨0, (some 38), none, .mov (.t 10), []⟩, ⟨1, (some 39), none, .mov (.t 9), []⟩, ⟨2, (some 40), none, .bin .mul (.c (.int .i64 2)) (.t 39), []⟩, ⟨3, (some 41), none, .bin .add (.t 38) (.t 40), []⟩, ⟨4, (some 10), none, .mov (.t 41), []⟩]))))))) (.ops [⟨0, (some 31), none, .mov (.t 8), []⟩, ⟨1, (some 32), none, .bin .sub (.t 31) (.c (.int .i64 1)), []⟩, ⟨2, (some 33), none, .mov (.t 9), []⟩, ⟨3, (some 34), none, .bin .quo (.t 33) (.c (.int .i64 2)), []⟩, ⟨4, (some 8), none, .mov (.t 32), []⟩, ⟨5, (some 9), none, .mov (.t 34), []⟩])))))) (.seq (.ops [⟨0, (some 63), none, .mov (.t 7), []⟩, ⟨1, (some 4), none, .mov (.t 63), []⟩, ⟨2, (some 5), none, .mov (.c (.int .i64 0)), []⟩]) .ret)))))
attribute [irreducible] c_afft_Forward
theorem run_afft_Forward {args : List Value} {w : World} {K : Value → World → Prop} (hn : args.length ≤ 64) (h : WP Try.prog c_afft_Forward (endQ [.t 4, .t 5] K) (initT args) w) : CallV Try.prog 18 args w K :=
  call_of follows Try.func18 (by kernel_rfl) (by kernel_rfl) hn h
end Go.Proofs.Ytpmfeaajpjjfiaa.Fw
namespace Go.Proofs.Ytpmfeaajpjjfiaa.Fw
open Go Go.Fw
theorem pow_le16 {k : Nat} (h : k ≤ 16) : 2 ^ k ≤ 65536 := by have : 2 ^ k ≤ 2 ^ 16 := Nat.pow_le_pow_right (by omega) h; omega
theorem mod0_lt {o n h : Nat} (h0 : 0 < h) (ho : o % h = 0) (hn : n % h = 0) (hlt : o < n) : o + h ≤ n := by
  obtain ⟨a, rfl⟩ := Nat.dvd_of_mod_eq_zero ho
  obtain ⟨b, rfl⟩ := Nat.dvd_of_mod_eq_zero hn
  have : a < b := Nat.lt_of_mul_lt_mul_left hlt
  calc h * a + h = h * (a + 1) := (Nat.mul_succ h a).symm
    _ ≤ h * b := Nat.mul_le_mul_left h this
theorem pow_mod_half {k j : Nat} (h : j < k) : 2 ^ k % (2 * 2 ^ j) = 0 := pow_dvd_mod (n := 2 ^ k) (k := k) (Nat.mod_self _) h
/-- One pair of pieces, forth. -/
theorem bfn_piece {j A o : Nat} {f : Nat → El 16} (ho : o % (2 * 2 ^ j) = 0) (i : Nat) (h1 : o ≤ i) (h2 : i < o + 2 * 2 ^ j) :
    bfn j A f i = if i < o + 2 ^ j then f i + wel ((A + o) >>> j) * f (i + 2 ^ j) else f (i - 2 ^ j) + wel ((A + o) >>> j) * f i + f i := by
  have hm : i % (2 * 2 ^ j) = i - o := by
    obtain ⟨r, rfl⟩ : ∃ r, i = o + r := ⟨i - o, by omega⟩
    rw [Nat.add_mod, ho, Nat.zero_add, Nat.mod_mod, Nat.mod_eq_of_lt (by omega)]; omega
  unfold bfn
  rw [hm, show i - (i - o) = o by omega]
  by_cases h : i < o + 2 ^ j
  · rw [if_pos (by omega), if_pos h]
  · rw [if_neg (by omega), if_neg h]
theorem bin_piece {j A o : Nat} {f : Nat → El 16} (ho : o % (2 * 2 ^ j) = 0) (i : Nat) (h1 : o ≤ i) (h2 : i < o + 2 * 2 ^ j) :
    bin' j A f i = if i < o + 2 ^ j then f i + wel ((A + o) >>> j) * (f i + f (i + 2 ^ j)) else f (i - 2 ^ j) + f i := by
  have hm : i % (2 * 2 ^ j) = i - o := by
    obtain ⟨r, rfl⟩ : ∃ r, i = o + r := ⟨i - o, by omega⟩
    rw [Nat.add_mod, ho, Nat.zero_add, Nat.mod_mod, Nat.mod_eq_of_lt (by omega)]; omega
  unfold bin'
  rw [hm, show i - (i - o) = o by omega]
  by_cases h : i < o + 2 ^ j
  · rw [if_pos (by omega), if_pos h]
  · rw [if_neg (by omega), if_neg h]
/-- A list cut at a pair of pieces. -/
theorem cut2 (m : List (El 16)) {o h : Nat} (hl : o + 2 * h ≤ m.length) : m = m.take o ++ (m.drop o).take h ++ (m.drop (o + h)).take h ++ m.drop (o + 2 * h) := by
  have e1 : m.drop o = (m.drop o).take h ++ m.drop (o + h) := by rw [← List.drop_drop, List.take_append_drop]
  have e2 : m.drop (o + h) = (m.drop (o + h)).take h ++ m.drop (o + 2 * h) := by
    have := (List.take_append_drop h (m.drop (o + h))).symm
    rw [List.drop_drop] at this
    rw [show o + 2 * h = o + h + h by omega]; exact this
  rw [List.append_assoc, ← e2, List.append_assoc, ← e1, List.take_append_drop]
theorem afft_Forward_spec (w : World) (s : Value) (l : List (El 16)) (a : Int) (h : Sl w s l) (hb : l.length ≤ 70368744175616) :
    CallV Try.prog 18 [s, .int .i64 a] w fun v w' => RowKit.Below w.heap.size w w' ∧ ((∃ k, k ≤ 16 ∧ l.length = 2 ^ k ∧ isC a (2 ^ k) (2 ^ k) = true ∧ ∃ sv m, v = .tuple #[sv, .int .i64 0] ∧ Ow w.heap.size w' sv m ∧ m.length = l.length ∧ ∀ i, i < 2 ^ k → (co m).c i = itF a.toNat k (co l).c i) ∨
      (isP (l.length : Int) = false ∧ v = .tuple #[.slice none 0 0, .int .i64 130]) ∨ (isP (l.length : Int) = true ∧ isC a l.length l.length = false ∧ v = .tuple #[.slice none 0 0, .int .i64 140])) := by
  refine run_afft_Forward (by simp) ?_
  simp only [c_afft_Forward, WS, List.getElem_cons_zero, List.getElem_cons_succ, Option.isNone_some, Option.isNone_none, List.getD_cons_zero, List.getD_cons_succ, I.at, atL, atO, atP, evp, evs, retV, ↓reduceIte, Nat.reduceEqDiff, reduceCtorEq, h.Xlen]
  refine X_call0 ((afft_power_spec w _).mono ?_)
  rintro _ w' ⟨rfl, rfl⟩
  cases hp : isP (l.length : Int) with
  | false =>
    simp (maxSteps := 1000000) (disch := omega) only [WS, List.getElem_cons_zero, List.getElem_cons_succ, Option.isNone_some, Option.isNone_none, List.getD_cons_zero, List.getD_cons_succ, I.at, atL, atO, atP, evp, evs, retV, ↓reduceIte, Nat.reduceEqDiff, reduceCtorEq, AS]
    exact ⟨RowKit.Below.refl _ _, Or.inr (Or.inl trivial)⟩
  | true =>
    obtain ⟨k, hk, hlk⟩ := (isP_iff _).1 hp
    have hlk : l.length = 2 ^ k := by omega
    have hp0 := Nat.two_pow_pos k
    have hp16 := pow_le16 hk
    simp (maxSteps := 1000000) (disch := omega) only [WS, List.getElem_cons_zero, List.getElem_cons_succ, Option.isNone_some, Option.isNone_none, List.getD_cons_zero, List.getD_cons_succ, I.at, atL, atO, atP, evp, evs, retV, ↓reduceIte, Nat.reduceEqDiff, reduceCtorEq, AS]
    refine X_call0 ((afft_begins_spec w' a l.length l.length (by omega)).mono ?_)
    rintro _ w ⟨rfl, rfl⟩
    cases hc : isC a l.length l.length with
    | false =>
      simp (maxSteps := 1000000) (disch := omega) only [WS, List.getElem_cons_zero, List.getElem_cons_succ, Option.isNone_some, Option.isNone_none, List.getD_cons_zero, List.getD_cons_succ, I.at, atL, atO, atP, evp, evs, retV, ↓reduceIte, Nat.reduceEqDiff, reduceCtorEq, AS]
      exact ⟨RowKit.Below.refl _ _, Or.inr (Or.inr trivial)⟩
    | true =>
      have hc2 := hc
      unfold isC at hc2
      obtain ⟨c1, c2, c3, c4⟩ := of_decide_eq_true hc2
      obtain ⟨A, rfl⟩ : ∃ A : Nat, a = (A : Int) := ⟨a.toNat, by omega⟩
      rw [Int.toNat_natCast] at c4
      rw [Int.toNat_natCast]
      rw [hlk] at c3 c4
      simp (maxSteps := 1000000) (disch := omega) only [WS, List.getElem_cons_zero, List.getElem_cons_succ, Option.isNone_some, Option.isNone_none, List.getD_cons_zero, List.getD_cons_succ, I.at, atL, atO, atP, evp, evs, retV, ↓reduceIte, Nat.reduceEqDiff, reduceCtorEq, AS]
      refine (Ow.nil w.heap.size w).Xapp h (Nat.le_refl _) (by simp only [List.length_nil, maxBytes]; omega) (by simp only [List.length_nil]; omega) fun sv w1 ov hg hnear => ?_
      rw [List.nil_append] at ov
      have hB : RowKit.Below w.heap.size w w1 := (RowKit.Below.refl _ _).grown hg (Nat.le_refl _) fun b hb => by simp [Fw.blk, Value.ownBlock] at hb
      simp (maxSteps := 1000000) (disch := omega) only [WS, List.getElem_cons_zero, List.getElem_cons_succ, Option.isNone_some, Option.isNone_none, List.getD_cons_zero, List.getD_cons_succ, I.at, atL, atO, atP, evp, evs, retV, ↓reduceIte, Nat.reduceEqDiff, reduceCtorEq, AS, hlk]
      refine X_call0 ((afft_levels_spec w1 k hk).mono ?_)
      rintro _ w' ⟨rfl, rfl⟩
      have e0 : IntKind.i64.wrap (((2 ^ k : Nat) : Int).tdiv 2) = ((2 ^ k / 2 : Nat) : Int) := by rw [show (2 : Int) = ((2 : Nat) : Int) from rfl, tdiv_nat, wrap_64 _ (by omega)]
      simp (maxSteps := 1000000) (disch := omega) only [WS, List.getElem_cons_zero, List.getElem_cons_succ, Option.isNone_some, Option.isNone_none, List.getD_cons_zero, List.getD_cons_succ, I.at, atL, atO, atP, evp, evs, retV, ↓reduceIte, Nat.reduceEqDiff, reduceCtorEq, AS, X_quo, e0, show ((2 : Int) ≠ 0) = True from eq_true (by decide)]
      have hW := Wr.own (α := El 16) w.heap.size w sv
      refine loop_of (fun t w' => t 1 = .int .i64 (A : Int) ∧ t 6 = .int .i64 ((2 ^ k : Nat) : Int) ∧ t 7 = sv ∧ ∃ (r : Nat) (m : List (El 16)), t 8 = .int .i64 ((r : Int) - 1) ∧ t 9 = .int .i64 ((2 ^ r / 2 : Nat) : Int) ∧ r ≤ k ∧ (Ow w.heap.size w' sv m ∧ RowKit.Below w.heap.size w w' ∧ w.heap.size ≤ w'.heap.size) ∧ m.length = 2 ^ k ∧
          ∀ i, i < 2 ^ k → itF A r (co m).c i = itF A k (co l).c i) (fun t _ => (toI (t 9)).toNat) ⟨by simp only [WS, List.getElem_cons_zero, List.getElem_cons_succ, Option.isNone_some, Option.isNone_none, List.getD_cons_zero, List.getD_cons_succ, I.at, atL, atO, atP, evp, evs, retV, ↓reduceIte, Nat.reduceEqDiff, reduceCtorEq], by simp only [WS, List.getElem_cons_zero, List.getElem_cons_succ, Option.isNone_some, Option.isNone_none, List.getD_cons_zero, List.getD_cons_succ, I.at, atL, atO, atP, evp, evs, retV, ↓reduceIte, Nat.reduceEqDiff, reduceCtorEq], by simp only [WS, List.getElem_cons_zero, List.getElem_cons_succ, Option.isNone_some, Option.isNone_none, List.getD_cons_zero, List.getD_cons_succ, I.at, atL, atO, atP, evp, evs, retV, ↓reduceIte, Nat.reduceEqDiff, reduceCtorEq], k, l, rfl, rfl, Nat.le_refl _, ⟨ov, hB, hB.size⟩, hlk, fun i _ => rfl⟩ ?_
      clear ov hB hg hnear
      rintro t w2 ⟨t1, t6, t7, r, m, t8, t9, hr, hm, hml, hit⟩
      cases r with
      | zero =>
        simp (maxSteps := 1000000) (disch := omega) only [WS, List.getElem_cons_zero, List.getElem_cons_succ, Option.isNone_some, Option.isNone_none, List.getD_cons_zero, List.getD_cons_succ, I.at, atL, atO, atP, evp, evs, retV, ↓reduceIte, Nat.reduceEqDiff, reduceCtorEq, AS, t1, t6, t7, t8, t9, show decide ((0 : Int) < ((2 ^ 0 / 2 : Nat) : Int)) = false from rfl]
        exact ⟨hm.2.1, Or.inl ⟨k, hk, rfl, hlk ▸ hc, sv, m, rfl, hm.1, hml, hit⟩⟩
      | succ j =>
        have hj0 := Nat.two_pow_pos j
        have hj1 : 2 ^ (j + 1) / 2 = 2 ^ j := by rw [Nat.pow_succ]; omega
        have hjk : 2 ^ j < 2 ^ k := Nat.pow_lt_pow_right (by omega) (by omega)
        have hmk := pow_mod_half (show j < k by omega)
        rw [hj1] at t9
        have e8 : ((j + 1 : Nat) : Int) - 1 = (j : Int) := by omega
        rw [e8] at t8
        simp (maxSteps := 1000000) (disch := omega) only [WS, List.getElem_cons_zero, List.getElem_cons_succ, Option.isNone_some, Option.isNone_none, List.getD_cons_zero, List.getD_cons_succ, I.at, atL, atO, atP, evp, evs, retV, ↓reduceIte, Nat.reduceEqDiff, reduceCtorEq, AS, t1, t6, t7, t8, t9]
        refine loop_of (fun t w' => t 1 = .int .i64 (A : Int) ∧ t 6 = .int .i64 ((2 ^ k : Nat) : Int) ∧ t 7 = sv ∧ t 8 = .int .i64 (j : Int) ∧ t 9 = .int .i64 ((2 ^ j : Nat) : Int) ∧ ∃ (o : Nat) (m' : List (El 16)), t 10 = .int .i64 (o : Int) ∧ o ≤ 2 ^ k ∧ o % (2 * 2 ^ j) = 0 ∧ (Ow w.heap.size w' sv m' ∧ RowKit.Below w.heap.size w w' ∧ w.heap.size ≤ w'.heap.size) ∧ m'.length = 2 ^ k ∧
            ∀ i, (co m').c i = if i < o then bfn j A (co m).c i else (co m).c i) (fun t _ => 2 ^ k - (toI (t 10)).toNat) ⟨by simp only [WS, List.getElem_cons_zero, List.getElem_cons_succ, Option.isNone_some, Option.isNone_none, List.getD_cons_zero, List.getD_cons_succ, I.at, atL, atO, atP, evp, evs, retV, ↓reduceIte, Nat.reduceEqDiff, reduceCtorEq]; exact t1, by simp only [WS, List.getElem_cons_zero, List.getElem_cons_succ, Option.isNone_some, Option.isNone_none, List.getD_cons_zero, List.getD_cons_succ, I.at, atL, atO, atP, evp, evs, retV, ↓reduceIte, Nat.reduceEqDiff, reduceCtorEq]; exact t6, by simp only [WS, List.getElem_cons_zero, List.getElem_cons_succ, Option.isNone_some, Option.isNone_none, List.getD_cons_zero, List.getD_cons_succ, I.at, atL, atO, atP, evp, evs, retV, ↓reduceIte, Nat.reduceEqDiff, reduceCtorEq]; exact t7, by simp only [WS, List.getElem_cons_zero, List.getElem_cons_succ, Option.isNone_some, Option.isNone_none, List.getD_cons_zero, List.getD_cons_succ, I.at, atL, atO, atP, evp, evs, retV, ↓reduceIte, Nat.reduceEqDiff, reduceCtorEq]; exact t8, by simp only [WS, List.getElem_cons_zero, List.getElem_cons_succ, Option.isNone_some, Option.isNone_none, List.getD_cons_zero, List.getD_cons_succ, I.at, atL, atO, atP, evp, evs, retV, ↓reduceIte, Nat.reduceEqDiff, reduceCtorEq]; exact t9, 0, m, rfl, by omega, by rw [Nat.zero_mod], hm, hml, fun i => by rw [if_neg (by omega)]⟩ ?_
        clear t1 t6 t7 t8 t9 hm
        rintro t w3 ⟨t1, t6, t7, t8, t9, o, m', t10, ho, hom, hm, hml', hco⟩
        by_cases hlt : o < 2 ^ k
        · have hle := mod0_lt (by omega) hom hmk hlt
          simp (maxSteps := 1000000) (disch := omega) only [WS, List.getElem_cons_zero, List.getElem_cons_succ, Option.isNone_some, Option.isNone_none, List.getD_cons_zero, List.getD_cons_succ, I.at, atL, atO, atP, evp, evs, retV, ↓reduceIte, Nat.reduceEqDiff, reduceCtorEq, AS, t1, t6, t7, t8, t9, t10]
          refine WP_dops ?_
          simp (maxSteps := 1000000) (disch := omega) only [ES, List.mem_cons, List.not_mem_nil, implies_true, forall_const, WS, List.getElem_cons_zero, List.getElem_cons_succ, Option.isNone_some, Option.isNone_none, List.getD_cons_zero, List.getD_cons_succ, I.at, atL, atO, atP, evp, evs, retV, ↓reduceIte, Nat.reduceEqDiff, reduceCtorEq, AS, t1, t6, t7, t8, t9, t10]
          refine E_call0 ((afft_skew_spec w3.drew j (A + o) (by omega) (by omega)).mono ?_)
          rintro _ w4 ⟨rfl, hB4⟩
          have hm4 := hW.up _ _ _ (hW.drew hm) hB4
          have hsl := hW.sl _ _ hm4
          simp (maxSteps := 1000000) (disch := omega) only [ES, List.mem_cons, List.not_mem_nil, implies_true, forall_const, WS, List.getElem_cons_zero, List.getElem_cons_succ, Option.isNone_some, Option.isNone_none, List.getD_cons_zero, List.getD_cons_succ, I.at, atL, atO, atP, evp, evs, retV, ↓reduceIte, Nat.reduceEqDiff, reduceCtorEq, AS, t1, t6, t7, t8, t9, t10, hsl.Eslc (show o ≤ o + 2 ^ j by omega) (show o + 2 ^ j ≤ m'.length by omega), hsl.Eslc (show o + 2 ^ j ≤ o + 2 * 2 ^ j by omega) (show o + 2 * 2 ^ j ≤ m'.length by omega)]
          have hcut := cut2 m' (o := o) (h := 2 ^ j) (by omega)
          generalize hpre : m'.take o = pre at hcut
          generalize hx : (m'.drop o).take (2 ^ j) = x at hcut
          generalize hy : (m'.drop (o + 2 ^ j)).take (2 ^ j) = y at hcut
          generalize hpost : m'.drop (o + 2 * 2 ^ j) = post at hcut
          have lpre : pre.length = o := by rw [← hpre, List.length_take]; omega
          have lx : x.length = 2 ^ j := by rw [← hx, List.length_take, List.length_drop]; omega
          have ly : y.length = 2 ^ j := by rw [← hy, List.length_take, List.length_drop]; omega
          obtain ⟨W1, W2⟩ := hW.win2 pre post hj0 lpre.symm
          refine E_call0 ((afft_forward_spec (M := fun a b w' => a.length = 2 ^ j ∧ b.length = 2 ^ j ∧ (Ow w.heap.size w' sv (pre ++ a ++ b ++ post) ∧ RowKit.Below w.heap.size w w' ∧ w.heap.size ≤ w'.heap.size)) (wel ((A + o) >>> j)) _ _ x y w4 W1 W2 ⟨lx, ly, hcut ▸ hm4⟩ (by omega) (by omega)).mono ?_)
          rintro _ w5 ⟨rfl, x', y', ⟨lx', ly', hm5⟩, -, -, hx', hy'⟩
          simp (maxSteps := 1000000) (disch := omega) only [ES, List.mem_cons, List.not_mem_nil, implies_true, forall_const, WS, List.getElem_cons_zero, List.getElem_cons_succ, Option.isNone_some, Option.isNone_none, List.getD_cons_zero, List.getD_cons_succ, I.at, atL, atO, atP, evp, evs, retV, ↓reduceIte, Nat.reduceEqDiff, reduceCtorEq, AS, t1, t6, t7, t8, t9, t10]
          have hxi : ∀ i, i < 2 ^ j → (co x).c i = (co m').c (o + i) := fun i hi => by rw [← hx, co_takeL, if_pos hi, co_drop]
          have hyi : ∀ i, i < 2 ^ j → (co y).c i = (co m').c (o + 2 ^ j + i) := fun i hi => by rw [← hy, co_takeL, if_pos hi, co_drop]
          have hlen5 : (pre ++ x' ++ y' ++ post).length = 2 ^ k := by
            have h1 : (pre ++ x ++ y ++ post).length = 2 ^ k := by rw [← hcut, hml']
            simp only [List.length_append] at h1 ⊢; omega
          refine ⟨⟨o + 2 * 2 ^ j, _, rfl, by omega, by rw [Nat.add_mod, hom, Nat.zero_add, Nat.mod_self, Nat.zero_mod], hm5, hlen5, fun i => ?_⟩, by omega⟩
          have hold := hco
          by_cases hi1 : i < o
          · rw [if_pos (by omega), co_app, if_pos (by simp only [List.length_append]; omega), co_app, if_pos (by simp only [List.length_append]; omega), co_app, if_pos (by omega), ← hpre, co_takeL, if_pos hi1, hco i, if_pos hi1]
          · by_cases hi2 : i < o + 2 * 2 ^ j
            · rw [if_pos hi2, bfn_piece hom i (by omega) hi2]
              by_cases hi3 : i < o + 2 ^ j
              · rw [if_pos hi3, co_app, if_pos (by simp only [List.length_append]; omega), co_app, if_pos (by simp only [List.length_append]; omega), co_app, if_neg (by omega), hx', hxi _ (by omega), hyi _ (by omega), hco, hco, if_neg (by omega), if_neg (by omega), lpre, show o + (i - o) = i by omega, show o + 2 ^ j + (i - o) = i + 2 ^ j by omega]
              · rw [if_neg hi3, co_app, if_pos (by simp only [List.length_append]; omega), co_app, if_neg (by simp only [List.length_append]; omega), hy', hxi _ (by simp only [List.length_append]; omega), hyi _ (by simp only [List.length_append]; omega), hco, hco, if_neg (by simp only [List.length_append]; omega), if_neg (by simp only [List.length_append]; omega)]
                simp only [List.length_append, lpre, lx']
                rw [show o + (i - (o + 2 ^ j)) = i - 2 ^ j by omega, show o + 2 ^ j + (i - (o + 2 ^ j)) = i by omega]
            · rw [if_neg hi2, co_app, if_neg (by simp only [List.length_append]; omega), ← hpost, co_drop, hco, if_neg (by simp only [List.length_append]; omega)]
              simp only [List.length_append, lpre, lx', ly']
              rw [show o + 2 * 2 ^ j + (i - (o + 2 ^ j + 2 ^ j)) = i by omega]
        · obtain rfl : o = 2 ^ k := by omega
          have e2 : IntKind.i64.wrap (((2 ^ j : Nat) : Int).tdiv 2) = ((2 ^ j / 2 : Nat) : Int) := by rw [show (2 : Int) = ((2 : Nat) : Int) from rfl, tdiv_nat, wrap_64 _ (by omega)]
          have e1 : IntKind.i64.wrap ((j : Int) - 1) = (j : Int) - 1 := wrap_id (by omega) (by omega)
          simp (maxSteps := 1000000) (disch := omega) only [WS, List.getElem_cons_zero, List.getElem_cons_succ, Option.isNone_some, Option.isNone_none, List.getD_cons_zero, List.getD_cons_succ, I.at, atL, atO, atP, evp, evs, retV, ↓reduceIte, Nat.reduceEqDiff, reduceCtorEq, decide_eq_false, t1, t6, t7, t8, t9, t10, X_quo, e1, e2, show ((2 : Int) ≠ 0) = True from eq_true (by decide), toI_int]
          refine ⟨⟨j, m', rfl, rfl, by omega, hm, hml', fun i hi => ?_⟩, by omega⟩
          rw [← hit i hi]
          exact itF_loc (n := 2 ^ k) (Nat.mod_eq_zero_of_dvd (Nat.pow_dvd_pow 2 (show j ≤ k by omega))) (fun i hi => by rw [hco i, if_pos hi]) i hi
end Go.Proofs.Ytpmfeaajpjjfiaa.Fw
