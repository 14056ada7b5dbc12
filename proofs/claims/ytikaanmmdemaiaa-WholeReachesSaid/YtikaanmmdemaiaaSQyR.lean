import Derived.Test.YtikaanmmdemaiaaProg
import Derived.Test.YtikaanmmdemaiaaFwTR
import Derived.Test.YtikaanmmdemaiaaSQxR
set_option linter.all false
set_option linter.unusedVariables false
set_option linter.unusedSimpArgs false
set_option maxRecDepth 100000
set_option maxHeartbeats 1000000
namespace Go.Proofs.Ytikaanmmdemaiaa.Fw
open Go Go.Fw Go.Proofs
attribute [local irreducible] stepI
def c_cullettop_WholeReaches : C := .seq (.ops [⟨0, (some 6), none, .mov (.c (.bool false)), []⟩]) (.seq (.ops [⟨0, (some 18), none, .bsl 26 1 [.int .u16 0] [(0, (1, .c (.int .u16 6)))], []⟩, ⟨1, (some 19), none, .call (.c (.func (.func 8) #[] #[])) [.t 18, .c (.int .i64 0), .c (.int .i64 5)], []⟩, ⟨2, (some 17), none, .mov (.t 19), []⟩, ⟨3, (some 20), none, .ext (.t 17) 0, []⟩, ⟨4, (some 21), none, .ext (.t 17) 1, []⟩, ⟨5, (some 7), none, .mov (.t 20), []⟩, ⟨6, (some 8), none, .mov (.t 21), []⟩]) (.seq (.seq (.ops [⟨0, (some 22), none, .mov (.t 8), []⟩, ⟨1, (some 23), none, .bin .neq (.t 22) (.c (.int .i64 0)), []⟩, ⟨2, (some 24), none, .mov (.t 23), []⟩, ⟨3, (some 25), (some (24, false)), .mov (.t 7), []⟩, ⟨4, (some 26), (some (24, false)), .bsl 26 1 [.int .u16 0] [(0, (1, .c (.int .u16 6)))], []⟩, ⟨5, (some 27), (some (24, false)), .call (.c (.func (.func 9) #[] #[])) [.t 25, .t 26], []⟩, ⟨6, (some 28), (some (24, false)), .un .not (.t 27), []⟩, ⟨7, (some 29), none, .pick (.t 24) (.c (.bool true)) (.t 28), []⟩]) (.ite (.t 29) (.seq (.ops [⟨0, (some 6), none, .mov (.c (.bool false)), []⟩]) .ret) .skip)) (.seq (.ops [⟨0, (some 30), none, .mov (.t 0), []⟩, ⟨1, (some 31), none, .call (.c (.func (.func 10) #[] #[])) [.t 30, .c (.int .i64 1024)], []⟩, ⟨2, (some 0), none, .mov (.t 31), []⟩]) (.seq (.ops [⟨0, (some 32), none, .mov (.t 0), []⟩, ⟨1, (some 33), none, .len (.t 32), []⟩, ⟨2, (some 9), none, .mov (.t 33), []⟩]) (.seq (.ops [⟨0, (some 34), none, .mov (.t 1), []⟩, ⟨1, (some 35), none, .cnv .u64 (.t 34), []⟩, ⟨2, (some 36), none, .mov (.t 9), []⟩, ⟨3, (some 37), none, .bin .quo (.c (.int .i64 65536)) (.t 36), []⟩, ⟨4, (some 38), none, .cnv .u64 (.t 37), []⟩, ⟨5, (some 39), none, .bin .rem (.t 35) (.t 38), []⟩, ⟨6, (some 40), none, .cnv .i64 (.t 39), []⟩, ⟨7, (some 41), none, .mov (.t 9), []⟩, ⟨8, (some 42), none, .bin .mul (.t 40) (.t 41), []⟩, ⟨9, (some 10), none, .mov (.t 42), []⟩]) (.seq (.ops [⟨0, (some 43), none, .mov (.t 2), []⟩, ⟨1, (some 44), none, .cnv .u64 (.t 43), []⟩, ⟨2, (some 45), none, .mov (.t 9), []⟩, ⟨3, (some 46), none, .bin .quo (.c (.int .i64 65536)) (.t 45), []⟩, ⟨4, (some 47), none, .cnv .u64 (.t 46), []⟩, ⟨5, (some 48), none, .bin .rem (.t 44) (.t 47), []⟩, ⟨6, (some 49), none, .cnv .i64 (.t 48), []⟩, ⟨7, (some 50), none, .mov (.t 9), []⟩, ⟨8, (some 51), none, .bin .mul (.t 49) (.t 50), []⟩, ⟨9, (some 11), none, .mov (.t 51), []⟩]) (.seq (.ops [⟨0, (some 53), none, .mov (.t 0), []⟩, ⟨1, (some 54), none, .mov (.t 10), []⟩, ⟨2, (some 55), none, .mov (.t 11), []⟩, ⟨3, (some 56), none, .call (.c (.func (.func 8) #[] #[])) [.t 53, .t 54, .t 55], []⟩, ⟨4, (some 52), none, .mov (.t 56), []⟩, ⟨5, (some 57), none, .ext (.t 52) 0, []⟩, ⟨6, (some 58), none, .ext (.t 52) 1, []⟩, ⟨7, (some 12), none, .mov (.t 57), []⟩, ⟨8, (some 8), none, .mov (.t 58), []⟩]) (.seq (.seq (.ops [⟨0, (some 59), none, .mov (.t 8), []⟩, ⟨1, (some 60), none, .bin .neq (.t 59) (.c (.int .i64 0)), []⟩, ⟨2, (some 61), none, .mov (.t 60), []⟩, ⟨3, (some 62), (some (61, false)), .mov (.t 12), []⟩, ⟨4, (some 63), (some (61, false)), .len (.t 62), []⟩, ⟨5, (some 64), (some (61, false)), .mov (.t 9), []⟩, ⟨6, (some 65), (some (61, false)), .bin .neq (.t 63) (.t 64), []⟩, ⟨7, (some 66), none, .pick (.t 61) (.c (.bool true)) (.t 65), []⟩]) (.ite (.t 66) (.seq (.ops [⟨0, (some 6), none, .mov (.c (.bool false)), []⟩]) .ret) .skip)) (.seq (.ops [⟨0, (some 68), none, .mov (.t 12), []⟩, ⟨1, (some 69), none, .mov (.t 11), []⟩, ⟨2, (some 70), none, .mov (.t 10), []⟩, ⟨3, (some 71), none, .call (.c (.func (.func 8) #[] #[])) [.t 68, .t 69, .t 70], []⟩, ⟨4, (some 67), none, .mov (.t 71), []⟩, ⟨5, (some 72), none, .ext (.t 67) 0, []⟩, ⟨6, (some 73), none, .ext (.t 67) 1, []⟩, ⟨7, (some 13), none, .mov (.t 72), []⟩, ⟨8, (some 8), none, .mov (.t 73), []⟩]) (.seq (.seq (.ops [⟨0, (some 74), none, .mov (.t 8), []⟩, ⟨1, (some 75), none, .bin .neq (.t 74) (.c (.int .i64 0)), []⟩, ⟨2, (some 76), none, .mov (.t 75), []⟩, ⟨3, (some 77), (some (76, false)), .mov (.t 13), []⟩, ⟨4, (some 78), (some (76, false)), .mov (.t 0), []⟩, ⟨5, (some 79), (some (76, false)), .call (.c (.func (.func 9) #[] #[])) [.t 77, .t 78], []⟩, ⟨6, (some 80), (some (76, false)), .un .not (.t 79), []⟩, ⟨7, (some 81), none, .pick (.t 76) (.c (.bool true)) (.t 80), []⟩]) (.ite (.t 81) (.seq (.ops [⟨0, (some 6), none, .mov (.c (.bool false)), []⟩]) .ret) .skip)) (.seq (.ops [⟨0, (some 83), none, .mov (.t 0), []⟩, ⟨1, (some 84), none, .mov (.t 10), []⟩, ⟨2, (some 85), none, .call (.c (.func (.func 11) #[] #[])) [.t 83, .t 84], []⟩, ⟨3, (some 82), none, .mov (.t 85), []⟩, ⟨4, (some 86), none, .ext (.t 82) 0, []⟩, ⟨5, (some 87), none, .ext (.t 82) 1, []⟩, ⟨6, (some 14), none, .mov (.t 86), []⟩, ⟨7, (some 8), none, .mov (.t 87), []⟩]) (.seq (.seq (.ops [⟨0, (some 88), none, .mov (.t 8), []⟩, ⟨1, (some 89), none, .bin .neq (.t 88) (.c (.int .i64 0)), []⟩]) (.ite (.t 89) (.seq (.ops [⟨0, (some 6), none, .mov (.c (.bool false)), []⟩]) .ret) .skip)) (.seq (.ops [⟨0, (some 90), none, .mov (.t 11), []⟩, ⟨1, (some 91), none, .mov (.t 9), []⟩, ⟨2, (some 92), none, .bin .mul (.c (.int .i64 2)) (.t 91), []⟩, ⟨3, (some 93), none, .bin .quo (.t 90) (.t 92), []⟩, ⟨4, (some 94), none, .bin .mul (.t 93) (.c (.int .i64 2)), []⟩, ⟨5, (some 95), none, .mov (.t 9), []⟩, ⟨6, (some 96), none, .bin .mul (.t 94) (.t 95), []⟩, ⟨7, (some 15), none, .mov (.t 96), []⟩]) (.seq (.ops [⟨0, (some 98), none, .bsl 26 0 [.int .u16 0] [], []⟩, ⟨1, (some 99), none, .mov (.t 14), []⟩, ⟨2, (some 100), none, .app 26 2 [.int .u16 0] (.t 98) (.t 99), []⟩, ⟨3, (some 101), none, .mov (.t 9), []⟩, ⟨4, (some 102), none, .apz 26 2 [.int .u16 0] (.t 100) (.t 101), []⟩, ⟨5, (some 103), none, .mov (.t 15), []⟩, ⟨6, (some 104), none, .call (.c (.func (.func 12) #[] #[])) [.t 102, .t 103], []⟩, ⟨7, (some 97), none, .mov (.t 104), []⟩, ⟨8, (some 105), none, .ext (.t 97) 0, []⟩, ⟨9, (some 106), none, .ext (.t 97) 1, []⟩, ⟨10, (some 16), none, .mov (.t 105), []⟩, ⟨11, (some 8), none, .mov (.t 106), []⟩]) (.seq (.ops [⟨0, (some 107), none, .mov (.t 8), []⟩, ⟨1, (some 108), none, .bin .eql (.t 107) (.c (.int .i64 0)), []⟩, ⟨2, (some 109), none, .mov (.t 108), []⟩, ⟨3, (some 110), (some (109, true)), .mov (.t 16), []⟩, ⟨4, (some 111), (some (109, true)), .len (.t 110), []⟩, ⟨5, (some 112), (some (109, true)), .mov (.t 9), []⟩, ⟨6, (some 113), (some (109, true)), .bin .mul (.c (.int .i64 2)) (.t 112), []⟩, ⟨7, (some 114), (some (109, true)), .bin .eql (.t 111) (.t 113), []⟩, ⟨8, (some 115), none, .pick (.t 109) (.t 114) (.c (.bool false)), []⟩, ⟨9, (some 116), none, .mov (.t 115), []⟩, ⟨10, (some 117), (some (116, true)), .mov (.t 16), []⟩, ⟨11, (some 118), (some (116, true)), .mov (.t 11), []⟩, ⟨12, (some 119), (some (116, true)), .mov (.t 15), []⟩, ⟨13, (some 120), (some (116, true)), .bin .sub (.t 118) (.t 119), []⟩, ⟨14, (some 121), (some (116, true)), .mov (.t 11), []⟩, ⟨15, (some 122), (some (116, true)), .mov (.t 15), []⟩, ⟨16, (some 123), (some (116, true)), .bin .sub (.t 121) (.t 122), []⟩, ⟨17, (some 124), (some (116, true)), .mov (.t 9), []⟩, ⟨18, (some 125), (some (116, true)), .bin .add (.t 123) (.t 124), []⟩, ⟨19, (some 126), (some (116, true)), .slc 1 (.t 117) (some (.t 120)) (some (.t 125)) none, []⟩, ⟨20, (some 127), (some (116, true)), .mov (.t 12), []⟩, ⟨21, (some 128), (some (116, true)), .call (.c (.func (.func 9) #[] #[])) [.t 126, .t 127], []⟩, ⟨22, (some 129), none, .pick (.t 116) (.t 128) (.c (.bool false)), []⟩, ⟨23, (some 6), none, .mov (.t 129), []⟩]) .ret)))))))))))))))
attribute [irreducible] c_cullettop_WholeReaches
theorem run_cullettop_WholeReaches {args : List Value} {w : World} {K : Value → World → Prop} (hn : args.length ≤ 130) (h : WP Try.prog c_cullettop_WholeReaches (endQ [.t 6] K) (initT args) w) : CallV Try.prog 3 args w K :=
  call_of follows Try.func3 (by kernel_rfl) (by kernel_rfl) hn h
end Go.Proofs.Ytikaanmmdemaiaa.Fw
namespace Go.Proofs.Ytikaanmmdemaiaa.Fw
open Go Go.Fw
theorem big_of {k b : Nat} (hk : k ≤ 10) (h1 : b % 2 ^ k = 0) (h2 : b + 2 ^ k ≤ 65536) : ∃ B, b / (2 * 2 ^ k) * 2 * 2 ^ k = B ∧ B % 2 ^ (k + 1) = 0 ∧ B + 2 ^ (k + 1) ≤ 65536 ∧ B ≤ b ∧ b ≤ B + 2 ^ k := by
  refine ⟨_, rfl, ?_⟩
  have h0 := Nat.two_pow_pos k
  obtain ⟨q, rfl⟩ := Nat.dvd_of_mod_eq_zero h1
  obtain ⟨c, hc⟩ : ∃ c, 65536 = 2 * c * 2 ^ k := ⟨2 ^ (15 - k), by rw [Nat.mul_comm 2, ← Nat.pow_succ, ← Nat.pow_add, show 15 - k + 1 + k = 16 by omega]⟩
  have hp : 2 ^ (k + 1) = 2 * 2 ^ k := by rw [Nat.pow_succ, Nat.mul_comm]
  have e1 : 2 ^ k * q / (2 * 2 ^ k) = q / 2 := by rw [Nat.mul_comm 2, Nat.mul_div_mul_left _ _ h0]
  rw [e1, hp]
  have hq : q + 1 ≤ 2 * c := by
    refine Nat.le_of_mul_le_mul_right (c := 2 ^ k) ?_ h0
    rw [← hc, Nat.add_mul, Nat.one_mul, Nat.mul_comm q]
    exact h2
  have hq2 : q / 2 + 1 ≤ c := by omega
  refine ⟨by rw [Nat.mul_assoc]; exact Nat.mul_mod_left _ _, ?_, ?_, ?_⟩
  · have := Nat.mul_le_mul_right (2 * 2 ^ k) hq2
    rw [hc, show q / 2 * 2 * 2 ^ k + 2 * 2 ^ k = (q / 2 + 1) * (2 * 2 ^ k) by rw [Nat.add_mul, Nat.one_mul, Nat.mul_assoc], show 2 * c * 2 ^ k = c * (2 * 2 ^ k) by rw [Nat.mul_comm 2 c, Nat.mul_assoc]]
    exact this
  · rw [Nat.mul_comm (2 ^ k)]
    exact Nat.mul_le_mul_right _ (by omega)
  · rw [Nat.mul_comm (2 ^ k) q, show q / 2 * 2 * 2 ^ k + 2 ^ k = (q / 2 * 2 + 1) * 2 ^ k by rw [Nat.add_mul, Nat.one_mul]]
    exact Nat.mul_le_mul_right _ (by omega)
theorem cullettop_WholeReaches_spec (w : World) (s : Value) (l : List (El 16)) (a0 b0 : Int) (h : Sl w s l) (hb : l.length ≤ 70368744175616) :
    CallV Try.prog 3 [s, .int .i64 a0, .int .i64 b0] w fun v w' => v = .bool true ∧ RowKit.Below w.heap.size w w' := by
  refine run_cullettop_WholeReaches (by simp) ?_
  simp only [c_cullettop_WholeReaches, WS, List.getElem_cons_zero, List.getElem_cons_succ, Option.isNone_some, Option.isNone_none, List.getD_cons_zero, List.getD_cons_succ, I.at, atL, atO, atP, evp, evs, retV, ↓reduceIte, Nat.reduceEqDiff, reduceCtorEq]
  refine X_bsl (zs := [(⟨6⟩ : El 16)]) (by rfl) (by rfl) fun c2 w1 oc hB => ?_
  have B := hB
  have h := h.up hB
  clear hB
  have oc := oc.sl
  simp (maxSteps := 1000000) (disch := omega) only [WS, List.getElem_cons_zero, List.getElem_cons_succ, Option.isNone_some, Option.isNone_none, List.getD_cons_zero, List.getD_cons_succ, I.at, atL, atO, atP, evp, evs, retV, ↓reduceIte, Nat.reduceEqDiff, reduceCtorEq, AS]
  refine X_call0 ((ext_any (a := 0) (b := 5) (k := 0) oc rfl (by omega) (by decide +kernel) (by decide +kernel)).mono ?_)
  rintro _ w2 ⟨sv, d, rfl, od, dl, hd, hB⟩
  have od := od.sl
  have h := h.up hB
  have B := B.trans (hB.mono B.size)
  clear hB
  clear oc
  have hdm : d = [⟨6⟩] := (list_co dl hd).trans (by decide +kernel)
  simp (maxSteps := 1000000) (disch := omega) only [WS, List.getElem_cons_zero, List.getElem_cons_succ, Option.isNone_some, Option.isNone_none, List.getD_cons_zero, List.getD_cons_succ, I.at, atL, atO, atP, evp, evs, retV, ↓reduceIte, Nat.reduceEqDiff, reduceCtorEq, AS]
  refine X_bsl (zs := [(⟨6⟩ : El 16)]) (by rfl) (by rfl) fun c3 w3 oc hB => ?_
  have oc := oc.sl
  have h := h.up hB
  have od := od.up hB
  have B := B.trans (hB.mono B.size)
  clear hB
  simp (maxSteps := 1000000) (disch := omega) only [WS, List.getElem_cons_zero, List.getElem_cons_succ, Option.isNone_some, Option.isNone_none, List.getD_cons_zero, List.getD_cons_succ, I.at, atL, atO, atP, evp, evs, retV, ↓reduceIte, Nat.reduceEqDiff, reduceCtorEq, AS]
  refine X_call0 ((cullettop_words_spec w3 sv c3 _ _ od oc (by omega) (by simp)).mono ?_)
  rintro _ w4 ⟨rfl, hk⟩
  have hB := hk.1
  have h := h.up hB
  have B := B.trans (hB.mono B.size)
  clear hB
  clear hk od oc
  rw [decide_eq_true hdm]
  simp (maxSteps := 1000000) (disch := omega) only [WS, List.getElem_cons_zero, List.getElem_cons_succ, Option.isNone_some, Option.isNone_none, List.getD_cons_zero, List.getD_cons_succ, I.at, atL, atO, atP, evp, evs, retV, ↓reduceIte, Nat.reduceEqDiff, reduceCtorEq, AS]
  refine X_call0 ((cullettop_square_spec w4 s l 10 (by omega) h hb).mono ?_)
  rintro sq w5 ⟨hB, k, q, hk, oq, ql⟩
  have oq := oq.sl
  have B := B.trans (hB.mono B.size)
  clear hB
  clear h hdm dl hd
  have h8 : 2 ^ k ≤ 1024 := by have : 2 ^ k ≤ 2 ^ 10 := Nat.pow_le_pow_right (by omega) hk; omega
  have h0 := Nat.two_pow_pos k
  have hp : 2 ^ (k + 1) = 2 * 2 ^ k := by rw [Nat.pow_succ, Nat.mul_comm]
  have dk : (!decide (((2 ^ k : Nat) : Int) = ((2 ^ k : Nat) : Int))) = false := by rw [decide_eq_true rfl]; rfl
  obtain ⟨z, hz, -⟩ := wrap_u64_rng a0
  obtain ⟨y, hy, -⟩ := wrap_u64_rng b0
  obtain ⟨e1, e2, e3, e4, e5, e6, e7, hA1, hA2⟩ := cosetU (k := k) (by omega) z
  obtain ⟨-, -, -, -, f5, f6, f7, hB1, hB2⟩ := cosetU (k := k) (by omega) y
  simp (maxSteps := 1000000) (disch := omega) only [WS, List.getElem_cons_zero, List.getElem_cons_succ, Option.isNone_some, Option.isNone_none, List.getD_cons_zero, List.getD_cons_succ, I.at, atL, atO, atP, evp, evs, retV, ↓reduceIte, Nat.reduceEqDiff, reduceCtorEq, AS, oq.Xlen, ql, X_quo, X_rem, e1, e2, e3, e4, hz, hy, e5, e6, e7, f5, f6, f7]
  clear e1 e2 e3 e5 e6 e7 f5 f6 f7 hz hy
  generalize z % 2 ^ (16 - k) * 2 ^ k = A at hA1 hA2
  generalize y % 2 ^ (16 - k) * 2 ^ k = b at hB1 hB2
  have hCA := isC_of hA1 hA2
  have hCB := isC_of hB1 hB2
  obtain ⟨G, hG, hG1, hG2, hG3, hG4⟩ := big_of hk hB1 hB2
  have hCG := isC_of hG1 hG2
  refine X_call0 ((ext_any oq ql (by omega) hCA hCB).mono ?_)
  rintro _ w6 ⟨sw, ww, rfl, ow, wl, hw, hB⟩
  have ow := ow.sl
  have oq := oq.up hB
  have B := B.trans (hB.mono B.size)
  clear hB
  simp (maxSteps := 1000000) (disch := omega) only [WS, List.getElem_cons_zero, List.getElem_cons_succ, Option.isNone_some, Option.isNone_none, List.getD_cons_zero, List.getD_cons_succ, I.at, atL, atO, atP, evp, evs, retV, ↓reduceIte, Nat.reduceEqDiff, reduceCtorEq, AS, ow.Xlen, wl, dk]
  refine X_call0 ((ext_any ow wl (by omega) hCB hCA).mono ?_)
  rintro _ w7 ⟨su, u, rfl, ou, ul, hu, hB⟩
  have ou := ou.sl
  have oq := oq.up hB
  have ow := ow.up hB
  have B := B.trans (hB.mono B.size)
  clear hB
  have huq : u = q := co_eq ul ql fun i hi => by
    rw [hu i hi]
    refine (itF_loc (n := 2 ^ k) (Nat.mod_self _) (itI_loc (n := 2 ^ k) (Nat.mod_self _) hw) i hi).trans ?_
    rw [itI_itF, itF_itI]
  simp (maxSteps := 1000000) (disch := omega) only [WS, List.getElem_cons_zero, List.getElem_cons_succ, Option.isNone_some, Option.isNone_none, List.getD_cons_zero, List.getD_cons_succ, I.at, atL, atO, atP, evp, evs, retV, ↓reduceIte, Nat.reduceEqDiff, reduceCtorEq, AS]
  refine X_call0 ((cullettop_words_spec w7 su sq u q ou oq (by omega) (by omega)).mono ?_)
  rintro _ w8 ⟨rfl, hk1⟩
  have hB := hk1.1
  have oq := oq.up hB
  have ow := ow.up hB
  have B := B.trans (hB.mono B.size)
  clear hB
  clear hk1 ou
  rw [decide_eq_true huq]
  simp (maxSteps := 1000000) (disch := omega) only [WS, List.getElem_cons_zero, List.getElem_cons_succ, Option.isNone_some, Option.isNone_none, List.getD_cons_zero, List.getD_cons_succ, I.at, atL, atO, atP, evp, evs, retV, ↓reduceIte, Nat.reduceEqDiff, reduceCtorEq, AS]
  refine X_call0 ((inv_any oq ql (by omega) hCA).mono ?_)
  rintro _ w9 ⟨sc, c, rfl, oc, cl, hc, hB⟩
  have oc := oc.sl
  have oq := oq.up hB
  have ow := ow.up hB
  have B := B.trans (hB.mono B.size)
  clear hB
  have e8 : IntKind.i64.wrap (2 * ((2 ^ k : Nat) : Int)) = ((2 * 2 ^ k : Nat) : Int) := wrap_64 (2 * 2 ^ k) (by omega)
  have e9 : (((2 * 2 ^ k : Nat) : Int) ≠ 0) = True := eq_true (by omega)
  have hdl : b / (2 * 2 ^ k) ≤ b := Nat.div_le_self _ _
  obtain ⟨t, ht⟩ : ∃ t, b / (2 * 2 ^ k) = t := ⟨_, rfl⟩
  rw [ht] at hG hdl
  have e10 : IntKind.i64.wrap ((b : Int).tdiv ((2 * 2 ^ k : Nat) : Int)) = (t : Int) := by rw [tdiv_nat, ht]; exact wrap_64 _ (by omega)
  have e11 : IntKind.i64.wrap ((t : Int) * 2) = ((t * 2 : Nat) : Int) := wrap_64 (t * 2) (by omega)
  have e12 : IntKind.i64.wrap (((t * 2 : Nat) : Int) * ((2 ^ k : Nat) : Int)) = (G : Int) := by rw [w_mul _ _ (by rw [hG]; omega), hG]
  simp (maxSteps := 1000000) (disch := omega) only [WS, List.getElem_cons_zero, List.getElem_cons_succ, Option.isNone_some, Option.isNone_none, List.getD_cons_zero, List.getD_cons_succ, I.at, atL, atO, atP, evp, evs, retV, ↓reduceIte, Nat.reduceEqDiff, reduceCtorEq, AS, e8, X_quo, e9, e10, e11, e12]
  obtain ⟨wb, hwb, hwlt⟩ := ow.blk_lt (by rintro rfl; simp at wl; omega)
  refine X_bsl (zs := ([] : List (El 16))) (by rfl) (by rfl) fun e0 w10 oe hB => ?_
  have S9 := B.size
  have S10 := hB.size
  have oc := oc.up hB
  have ow := ow.up hB
  have B := B.trans (hB.mono B.size)
  clear hB
  simp (maxSteps := 1000000) (disch := omega) only [WS, List.getElem_cons_zero, List.getElem_cons_succ, Option.isNone_some, Option.isNone_none, List.getD_cons_zero, List.getD_cons_succ, I.at, atL, atO, atP, evp, evs, retV, ↓reduceIte, Nat.reduceEqDiff, reduceCtorEq, AS]
  refine oe.Xapp oc S10 (by simp only [List.length_nil, maxBytes]; omega) (by simp only [List.length_nil]; omega) fun s2 w11 o2 hg hn => ?_
  rw [List.nil_append] at o2
  have ow := ow.grown hg (Or.inl (by rw [hwb]; intro e; have := (oe.blk wb e.symm).1; omega))
  have B := B.grown hg B.size fun b hb => Nat.le_trans S9 (oe.blk b hb).1
  have S11 := Nat.le_trans S10 hg.size
  clear hg hn oe oc
  simp (maxSteps := 1000000) (disch := omega) only [WS, List.getElem_cons_zero, List.getElem_cons_succ, Option.isNone_some, Option.isNone_none, List.getD_cons_zero, List.getD_cons_succ, I.at, atL, atO, atP, evp, evs, retV, ↓reduceIte, Nat.reduceEqDiff, reduceCtorEq, AS]
  refine Ow.Xapz (x := (0 : El 16)) o2 rfl S11 (by simp only [maxBytes]; omega) (by omega) fun s3 w12 o3 hg hn => ?_
  have ow := ow.grown hg (Or.inl (by rw [hwb]; intro e; have := (o2.blk wb e.symm).1; omega))
  have B := B.grown hg B.size fun b hb => Nat.le_trans S9 (o2.blk b hb).1
  clear hg hn o2
  have l3 : (c ++ List.replicate (2 ^ k) (0 : El 16)).length = 2 ^ (k + 1) := by rw [List.length_append, List.length_replicate, cl, hp]; omega
  have hc3 : ∀ i, (co (c ++ List.replicate (2 ^ k) (0 : El 16))).c i = (co c).c i := fun i => by rw [co_append_zeros]
  generalize c ++ List.replicate (2 ^ k) (0 : El 16) = c2 at o3 l3 hc3
  have o3 := o3.sl
  simp (maxSteps := 1000000) (disch := omega) only [WS, List.getElem_cons_zero, List.getElem_cons_succ, Option.isNone_some, Option.isNone_none, List.getD_cons_zero, List.getD_cons_succ, I.at, atL, atO, atP, evp, evs, retV, ↓reduceIte, Nat.reduceEqDiff, reduceCtorEq, AS]
  refine X_call0 ((fwd_any o3 l3 (by omega) hCG).mono ?_)
  rintro _ w13 ⟨sa, al, rfl, oa, ll, ha, hB⟩
  have oa := oa.sl
  have ow := ow.up hB
  have B := B.trans (hB.mono B.size)
  clear hB
  obtain ⟨o, rfl⟩ : ∃ o, b = G + o := ⟨b - G, by omega⟩
  have e13 : IntKind.i64.wrap (((G + o : Nat) : Int) - (G : Int)) = (o : Int) := by rw [w_sub _ _ (by omega) (by omega)]; congr 1; omega
  have e14 : IntKind.i64.wrap ((o : Int) + ((2 ^ k : Nat) : Int)) = ((o + 2 ^ k : Nat) : Int) := w_add _ _ (by omega)
  have hsub := oa.sub (lo := o) (hi := o + 2 ^ k) (by omega) (by rw [ll, hp]; omega)
  have lsub : ((al.take (o + 2 ^ k)).drop o).length = 2 ^ k := by rw [List.length_drop, List.length_take, ll, hp]; omega
  have hfin : (al.take (o + 2 ^ k)).drop o = ww := co_eq lsub wl fun i hi => by
    rw [co_drop, co_takeL, if_pos (by omega), ha (o + i) (by rw [hp]; omega), itF_ev G (k + 1) _ _ hG1 hG2 (by rw [hp]; omega), hw i hi, itF_ev (G + o) k _ i hB1 hB2 hi]
    have x1 := evX_more (k := k + 1) (n := 2 ^ k) (m := 2 ^ (k + 1)) (f := (co c2).c) (x := wel (G + (o + i))) (fun j hj => by rw [hc3 j, co_dg c j (by omega)]) (by omega)
    rw [x1, evX_k (k := k) (e := 1) (n := 2 ^ k) (Nat.le_refl _), Nat.add_assoc]
    exact evX_ext fun j hj => by rw [hc3 j, hc j hj]
  have e15 : IntKind.i64.wrap (2 * ((2 ^ k : Nat) : Int)) = ((2 ^ (k + 1) : Nat) : Int) := by rw [hp]; exact wrap_64 (2 * 2 ^ k) (by omega)
  simp (maxSteps := 1000000) only [WS, List.getElem_cons_zero, List.getElem_cons_succ, Option.isNone_some, Option.isNone_none, List.getD_cons_zero, List.getD_cons_succ, I.at, atL, atO, atP, evp, evs, retV, ↓reduceIte, Nat.reduceEqDiff, reduceCtorEq, oa.Xlen, ll, e15, e13, e14, show decide (((2 ^ (k + 1) : Nat) : Int) = ((2 ^ (k + 1) : Nat) : Int)) = true from decide_eq_true rfl, oa.Xslc (show o ≤ o + 2 ^ k by omega) (show o + 2 ^ k ≤ al.length by rw [ll, hp]; omega)]
  refine X_call0 ((cullettop_words_spec w13 (Fw.sub sa o (o + 2 ^ k)) sw _ ww hsub ow (by rw [lsub]; omega) (by omega)).mono ?_)
  rintro _ w14 ⟨rfl, hk1⟩
  have hB := hk1.1
  have B := B.trans (hB.mono B.size)
  clear hB
  rw [decide_eq_true hfin]
  simp (maxSteps := 1000000) (disch := omega) only [WS, List.getElem_cons_zero, List.getElem_cons_succ, Option.isNone_some, Option.isNone_none, List.getD_cons_zero, List.getD_cons_succ, I.at, atL, atO, atP, evp, evs, retV, ↓reduceIte, Nat.reduceEqDiff, reduceCtorEq, AS]
  exact B
end Go.Proofs.Ytikaanmmdemaiaa.Fw
