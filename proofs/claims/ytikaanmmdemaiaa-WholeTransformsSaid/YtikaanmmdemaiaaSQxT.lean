import Derived.Test.YtikaanmmdemaiaaProg
import Derived.Test.YtikaanmmdemaiaaFwTT
import Derived.Test.YtikaanmmdemaiaaSQtT
import Derived.Test.YtikaanmmdemaiaaSQ7T
import Derived.Test.YtikaanmmdemaiaaFwVT
set_option linter.all false
set_option linter.unusedVariables false
set_option linter.unusedSimpArgs false
set_option maxRecDepth 100000
set_option maxHeartbeats 1000000
namespace Go.Proofs.Ytikaanmmdemaiaa.Fw
open Go Go.Fw Go.Proofs
attribute [local irreducible] stepI
def c_cullettop_WholeTransforms : C := .seq (.ops [⟨0, (some 4), none, .mov (.c (.bool false)), []⟩]) (.seq (.ops [⟨0, (some 18), none, .bsl 26 2 [.int .u16 0] [(0, (1, .c (.int .u16 4))), (1, (1, .c (.int .u16 9)))], []⟩, ⟨1, (some 19), none, .call (.c (.func (.func 12) #[] #[])) [.t 18, .c (.int .i64 0)], []⟩, ⟨2, (some 17), none, .mov (.t 19), []⟩, ⟨3, (some 20), none, .ext (.t 17) 0, []⟩, ⟨4, (some 21), none, .ext (.t 17) 1, []⟩, ⟨5, (some 5), none, .mov (.t 20), []⟩, ⟨6, (some 6), none, .mov (.t 21), []⟩]) (.seq (.seq (.ops [⟨0, (some 22), none, .mov (.t 6), []⟩, ⟨1, (some 23), none, .bin .neq (.t 22) (.c (.int .i64 0)), []⟩, ⟨2, (some 24), none, .mov (.t 23), []⟩, ⟨3, (some 25), (some (24, false)), .mov (.t 5), []⟩, ⟨4, (some 26), (some (24, false)), .bsl 26 2 [.int .u16 0] [(0, (1, .c (.int .u16 4))), (1, (1, .c (.int .u16 13)))], []⟩, ⟨5, (some 27), (some (24, false)), .call (.c (.func (.func 9) #[] #[])) [.t 25, .t 26], []⟩, ⟨6, (some 28), (some (24, false)), .un .not (.t 27), []⟩, ⟨7, (some 29), none, .pick (.t 24) (.c (.bool true)) (.t 28), []⟩]) (.ite (.t 29) (.seq (.ops [⟨0, (some 4), none, .mov (.c (.bool false)), []⟩]) .ret) .skip)) (.seq (.ops [⟨0, (some 30), none, .mov (.t 0), []⟩, ⟨1, (some 31), none, .call (.c (.func (.func 10) #[] #[])) [.t 30, .c (.int .i64 256)], []⟩, ⟨2, (some 0), none, .mov (.t 31), []⟩]) (.seq (.ops [⟨0, (some 32), none, .mov (.t 1), []⟩, ⟨1, (some 33), none, .cnv .u64 (.t 32), []⟩, ⟨2, (some 34), none, .mov (.t 0), []⟩, ⟨3, (some 35), none, .len (.t 34), []⟩, ⟨4, (some 36), none, .bin .quo (.c (.int .i64 65536)) (.t 35), []⟩, ⟨5, (some 37), none, .cnv .u64 (.t 36), []⟩, ⟨6, (some 38), none, .bin .rem (.t 33) (.t 37), []⟩, ⟨7, (some 39), none, .cnv .i64 (.t 38), []⟩, ⟨8, (some 40), none, .mov (.t 0), []⟩, ⟨9, (some 41), none, .len (.t 40), []⟩, ⟨10, (some 42), none, .bin .mul (.t 39) (.t 41), []⟩, ⟨11, (some 7), none, .mov (.t 42), []⟩]) (.seq (.ops [⟨0, (some 44), none, .mov (.t 0), []⟩, ⟨1, (some 45), none, .mov (.t 7), []⟩, ⟨2, (some 46), none, .call (.c (.func (.func 12) #[] #[])) [.t 44, .t 45], []⟩, ⟨3, (some 43), none, .mov (.t 46), []⟩, ⟨4, (some 47), none, .ext (.t 43) 0, []⟩, ⟨5, (some 48), none, .ext (.t 43) 1, []⟩, ⟨6, (some 8), none, .mov (.t 47), []⟩, ⟨7, (some 6), none, .mov (.t 48), []⟩]) (.seq (.ops [⟨0, (some 50), none, .mov (.t 0), []⟩, ⟨1, (some 51), none, .call (.c (.func (.func 21) #[] #[])) [.t 50], []⟩, ⟨2, (some 49), none, .mov (.t 51), []⟩, ⟨3, (some 52), none, .ext (.t 49) 0, []⟩, ⟨4, (some 53), none, .ext (.t 49) 1, []⟩, ⟨5, (some 9), none, .mov (.t 52), []⟩, ⟨6, (some 10), none, .mov (.t 53), []⟩]) (.seq (.seq (.ops [⟨0, (some 54), none, .mov (.t 6), []⟩, ⟨1, (some 55), none, .bin .neq (.t 54) (.c (.int .i64 0)), []⟩, ⟨2, (some 56), none, .mov (.t 55), []⟩, ⟨3, (some 57), (some (56, false)), .mov (.t 10), []⟩, ⟨4, (some 58), (some (56, false)), .bin .neq (.t 57) (.c (.int .i64 0)), []⟩, ⟨5, (some 59), none, .pick (.t 56) (.c (.bool true)) (.t 58), []⟩, ⟨6, (some 60), none, .mov (.t 59), []⟩, ⟨7, (some 61), (some (60, false)), .mov (.t 8), []⟩, ⟨8, (some 62), (some (60, false)), .len (.t 61), []⟩, ⟨9, (some 63), (some (60, false)), .mov (.t 0), []⟩, ⟨10, (some 64), (some (60, false)), .len (.t 63), []⟩, ⟨11, (some 65), (some (60, false)), .bin .neq (.t 62) (.t 64), []⟩, ⟨12, (some 66), none, .pick (.t 60) (.c (.bool true)) (.t 65), []⟩]) (.ite (.t 66) (.seq (.ops [⟨0, (some 4), none, .mov (.c (.bool false)), []⟩]) .ret) .skip)) (.seq (.ops [⟨0, (some 67), none, .call (.c (.func (.func 13) #[] #[])) [], []⟩, ⟨1, (some 11), none, .mov (.t 67), []⟩]) (.seq (.seq (.ops [⟨0, (some 68), none, .mov (.t 8), []⟩, ⟨1, (some 69), none, .len (.t 68), []⟩, ⟨2, (some 70), none, .mov (.c (.int .i64 0)), []⟩]) (.block 0 (.loop (.seq (.ops [⟨0, (some 71), none, .bin .lss (.t 70) (.t 69), []⟩]) (.seq (.ite (.t 71) .skip (.exit 0)) (.seq (.block 1 (.seq (.ops [⟨0, (some 72), none, .mov (.t 70), []⟩, ⟨1, (some 73), none, .ixs 1 (.t 68) (.t 70), []⟩, ⟨2, (some 74), none, .ld (.t 73), []⟩, ⟨3, (some 12), none, .mov (.t 72), []⟩, ⟨4, (some 13), none, .mov (.t 74), []⟩]) (.seq (.ops [⟨0, (some 76), none, .mov (.t 7), []⟩, ⟨1, (some 77), none, .mov (.t 12), []⟩, ⟨2, (some 78), none, .bin .add (.t 76) (.t 77), []⟩, ⟨3, (some 79), none, .call (.c (.func (.func 14) #[] #[])) [.t 78], []⟩, ⟨4, (some 75), none, .mov (.t 79), []⟩, ⟨5, (some 80), none, .ext (.t 75) 0, []⟩, ⟨6, (some 81), none, .ext (.t 75) 1, []⟩, ⟨7, (some 14), none, .mov (.t 80), []⟩, ⟨8, (some 15), none, .mov (.t 81), []⟩]) (.seq (.ops [⟨0, (some 82), none, .mov (.t 15), []⟩, ⟨1, (some 83), none, .bin .neq (.t 82) (.c (.int .i64 0)), []⟩, ⟨2, (some 84), none, .mov (.t 83), []⟩, ⟨3, (some 85), (some (84, false)), .mov (.t 11), []⟩, ⟨4, (some 86), (some (84, false)), .mov (.t 9), []⟩, ⟨5, (some 87), (some (84, false)), .mov (.t 14), []⟩, ⟨6, (some 88), (some (84, false)), .call (.c (.func (.func 19) #[] #[])) [.t 85, .t 86, .t 87], []⟩, ⟨7, (some 89), (some (84, false)), .mov (.t 13), []⟩, ⟨8, (some 90), (some (84, false)), .bin .neq (.t 88) (.t 89), []⟩, ⟨9, (some 91), none, .pick (.t 84) (.c (.bool true)) (.t 90), []⟩]) (.ite (.t 91) (.seq (.ops [⟨0, (some 4), none, .mov (.c (.bool false)), []⟩]) .ret) .skip))))) (.ops [⟨0, (some 92), none, .bin .add (.t 70) (.c (.int .i64 1)), []⟩, ⟨1, (some 70), none, .mov (.t 92), []⟩]))))))) (.seq (.ops [⟨0, (some 94), none, .mov (.t 8), []⟩, ⟨1, (some 95), none, .mov (.t 7), []⟩, ⟨2, (some 96), none, .call (.c (.func (.func 11) #[] #[])) [.t 94, .t 95], []⟩, ⟨3, (some 93), none, .mov (.t 96), []⟩, ⟨4, (some 97), none, .ext (.t 93) 0, []⟩, ⟨5, (some 98), none, .ext (.t 93) 1, []⟩, ⟨6, (some 16), none, .mov (.t 97), []⟩, ⟨7, (some 6), none, .mov (.t 98), []⟩]) (.seq (.ops [⟨0, (some 99), none, .mov (.t 6), []⟩, ⟨1, (some 100), none, .bin .eql (.t 99) (.c (.int .i64 0)), []⟩, ⟨2, (some 101), none, .mov (.t 100), []⟩, ⟨3, (some 102), (some (101, true)), .mov (.t 16), []⟩, ⟨4, (some 103), (some (101, true)), .mov (.t 0), []⟩, ⟨5, (some 104), (some (101, true)), .call (.c (.func (.func 9) #[] #[])) [.t 102, .t 103], []⟩, ⟨6, (some 105), none, .pick (.t 101) (.t 104) (.c (.bool false)), []⟩, ⟨7, (some 4), none, .mov (.t 105), []⟩]) .ret)))))))))))
attribute [irreducible] c_cullettop_WholeTransforms
theorem run_cullettop_WholeTransforms {args : List Value} {w : World} {K : Value → World → Prop} (hn : args.length ≤ 106) (h : WP Try.prog c_cullettop_WholeTransforms (endQ [.t 4] K) (initT args) w) : CallV Try.prog 7 args w K :=
  call_of follows Try.func7 (by kernel_rfl) (by kernel_rfl) hn h
end Go.Proofs.Ytikaanmmdemaiaa.Fw
namespace Go.Proofs.Ytikaanmmdemaiaa.Fw
open Go Go.Fw
theorem wrap_u64_rng (n : Int) : ∃ z : Nat, IntKind.u64.wrap n = (z : Int) ∧ z < 18446744073709551616 := by
  have h1 : 0 ≤ n % 18446744073709551616 := Int.emod_nonneg _ (by decide)
  have h2 : n % 18446744073709551616 < 18446744073709551616 := Int.emod_lt_of_pos _ (by decide)
  have e : IntKind.u64.wrap n = n % 18446744073709551616 := by
    show (if (false && decide (n % 18446744073709551616 ≥ 9223372036854775808)) = true then n % 18446744073709551616 - 18446744073709551616 else n % 18446744073709551616) = _
    rfl
  exact ⟨(n % 18446744073709551616).toNat, by rw [e]; omega, by omega⟩
/-- A coset's beginning, by a number. -/
theorem cosetU {k : Nat} (hk : k ≤ 16) (z : Nat) :
    IntKind.i64.wrap ((65536 : Int).tdiv ((2 ^ k : Nat) : Int)) = ((2 ^ (16 - k) : Nat) : Int) ∧ IntKind.u64.wrap ((2 ^ (16 - k) : Nat) : Int) = ((2 ^ (16 - k) : Nat) : Int) ∧ (((2 ^ (16 - k) : Nat) : Int) ≠ 0) = True ∧ (((2 ^ k : Nat) : Int) ≠ 0) = True ∧
    (z : Int).tmod ((2 ^ (16 - k) : Nat) : Int) = ((z % 2 ^ (16 - k) : Nat) : Int) ∧ IntKind.i64.wrap ((z % 2 ^ (16 - k) : Nat) : Int) = ((z % 2 ^ (16 - k) : Nat) : Int) ∧ IntKind.i64.wrap (((z % 2 ^ (16 - k) : Nat) : Int) * ((2 ^ k : Nat) : Int)) = ((z % 2 ^ (16 - k) * 2 ^ k : Nat) : Int) ∧
    (z % 2 ^ (16 - k) * 2 ^ k) % 2 ^ k = 0 ∧ z % 2 ^ (16 - k) * 2 ^ k + 2 ^ k ≤ 65536 := by
  have hp := Nat.two_pow_pos k
  have hp16 := pow_le16' hk
  have hc0 := Nat.two_pow_pos (16 - k)
  have hc : 2 ^ (16 - k) * 2 ^ k = 65536 := by rw [← Nat.pow_add, show 16 - k + k = 16 by omega]
  have hc16 : 2 ^ (16 - k) ≤ 65536 := by have : 2 ^ (16 - k) ≤ 2 ^ 16 := Nat.pow_le_pow_right (by omega) (by omega); omega
  have e1 : IntKind.i64.wrap ((65536 : Int).tdiv ((2 ^ k : Nat) : Int)) = ((2 ^ (16 - k) : Nat) : Int) := by
    rw [show (65536 : Int) = ((65536 : Nat) : Int) from rfl, tdiv_nat, ← hc, Nat.mul_div_cancel _ hp, wrap_64 _ (by omega)]
  generalize hC : 2 ^ (16 - k) = c at *
  have hlt : z % c < c := Nat.mod_lt _ hc0
  have hm : (z % c) * 2 ^ k + 2 ^ k ≤ 65536 := by
    rw [← hc, show z % c * 2 ^ k + 2 ^ k = (z % c + 1) * 2 ^ k by rw [Nat.add_mul, Nat.one_mul]]
    exact Nat.mul_le_mul_right _ hlt
  exact ⟨e1, wrap_u64 _ (by omega), eq_true (by omega), eq_true (by omega), tmod_nat _ _, wrap_64 _ (by omega), w_mul _ _ (by omega), Nat.mul_mod_left _ _, hm⟩
theorem cullettop_WholeTransforms_spec (w : World) (s : Value) (l : List (El 16)) (a : Int) (h : Sl w s l) (hb : l.length ≤ 70368744175616) :
    CallV Try.prog 7 [s, .int .i64 a] w fun v w' => v = .bool true ∧ RowKit.Below w.heap.size w w' := by
  refine run_cullettop_WholeTransforms (by simp) ?_
  simp only [c_cullettop_WholeTransforms, WS, List.getElem_cons_zero, List.getElem_cons_succ, Option.isNone_some, Option.isNone_none, List.getD_cons_zero, List.getD_cons_succ, I.at, atL, atO, atP, evp, evs, retV, ↓reduceIte, Nat.reduceEqDiff, reduceCtorEq]
  refine X_bsl (zs := [(⟨4⟩ : El 16), ⟨9⟩]) (by rfl) (by rfl) fun c2 w1 oc hB => ?_
  have B := hB
  have h := h.up hB
  clear hB
  have oc := oc.sl
  simp (maxSteps := 1000000) (disch := omega) only [WS, List.getElem_cons_zero, List.getElem_cons_succ, Option.isNone_some, Option.isNone_none, List.getD_cons_zero, List.getD_cons_succ, I.at, atL, atO, atP, evp, evs, retV, ↓reduceIte, Nat.reduceEqDiff, reduceCtorEq, AS]
  refine X_call0 ((fwd_any (a := 0) (k := 1) oc rfl (by omega) (by decide +kernel)).mono ?_)
  rintro _ w2 ⟨sv, d, rfl, od, dl, hd, hB⟩
  have od := od.sl
  have h := h.up hB
  have B := B.trans (hB.mono B.size)
  clear hB
  clear oc
  have hdm : d = [⟨4⟩, ⟨13⟩] := (list_co dl hd).trans (by decide +kernel)
  simp (maxSteps := 1000000) (disch := omega) only [WS, List.getElem_cons_zero, List.getElem_cons_succ, Option.isNone_some, Option.isNone_none, List.getD_cons_zero, List.getD_cons_succ, I.at, atL, atO, atP, evp, evs, retV, ↓reduceIte, Nat.reduceEqDiff, reduceCtorEq, AS]
  refine X_bsl (zs := [(⟨4⟩ : El 16), ⟨13⟩]) (by rfl) (by rfl) fun c3 w3 oc hB => ?_
  have oc := oc.sl
  have h := h.up hB
  have od := od.up hB
  have B := B.trans (hB.mono B.size)
  clear hB
  simp (maxSteps := 1000000) (disch := omega) only [WS, List.getElem_cons_zero, List.getElem_cons_succ, Option.isNone_some, Option.isNone_none, List.getD_cons_zero, List.getD_cons_succ, I.at, atL, atO, atP, evp, evs, retV, ↓reduceIte, Nat.reduceEqDiff, reduceCtorEq, AS]
  refine X_call0 ((cullettop_words_spec w3 sv c3 _ _ od oc (by omega) (by simp)).mono ?_)
  rintro _ w4 ⟨rfl, hk⟩
  have hB := hk.1
  have h := h.up hB
  have B := B.trans (hB.mono B.size)
  clear hB
  clear hk od oc
  rw [decide_eq_true hdm]
  simp (maxSteps := 1000000) (disch := omega) only [WS, List.getElem_cons_zero, List.getElem_cons_succ, Option.isNone_some, Option.isNone_none, List.getD_cons_zero, List.getD_cons_succ, I.at, atL, atO, atP, evp, evs, retV, ↓reduceIte, Nat.reduceEqDiff, reduceCtorEq, AS]
  refine X_call0 ((cullettop_square_spec w4 s l 8 (by omega) h hb).mono ?_)
  rintro sq w5 ⟨hB, k, q, hk, oq, ql⟩
  have oq := oq.sl
  have B := B.trans (hB.mono B.size)
  clear hB
  have h8 : 2 ^ k ≤ 256 := by have : 2 ^ k ≤ 2 ^ 8 := Nat.pow_le_pow_right (by omega) hk; omega
  have h0 := Nat.two_pow_pos k
  have ok : 1 ≤ q.length ∧ q.length ≤ 256 ∧ q.length &&& (q.length - 1) = 0 := ⟨by omega, by omega, by rw [ql]; exact and_pred_pow k⟩
  have pk : ∀ {k2 : Nat} {n : Nat}, n = 2 ^ k2 → n = 2 ^ k → k2 = k := fun h1 h2 => (Nat.pow_right_inj (a := 2) (by omega)).1 (h1.symm.trans h2)
  have dk : (!decide (((2 ^ k : Nat) : Int) = ((2 ^ k : Nat) : Int))) = false := by rw [decide_eq_true rfl]; rfl
  obtain ⟨z, hz, -⟩ := wrap_u64_rng a
  obtain ⟨e1, e2, e3, e4, e5, e6, e7, hA1, hA2⟩ := cosetU (k := k) (by omega) z
  simp (maxSteps := 1000000) (disch := omega) only [WS, List.getElem_cons_zero, List.getElem_cons_succ, Option.isNone_some, Option.isNone_none, List.getD_cons_zero, List.getD_cons_succ, I.at, atL, atO, atP, evp, evs, retV, ↓reduceIte, Nat.reduceEqDiff, reduceCtorEq, AS, oq.Xlen, ql, X_quo, X_rem, e1, e2, e3, e4, hz, e5, e6, e7]
  generalize z % 2 ^ (16 - k) * 2 ^ k = A at hA1 hA2
  have hC := isC_of hA1 hA2
  refine X_call0 ((fwd_any oq ql (by omega) hC).mono ?_)
  rintro _ w6 ⟨sv, v, rfl, ov, vl, hv, hB⟩
  have ov := ov.sl
  have oq := oq.up hB
  have B := B.trans (hB.mono B.size)
  clear hB
  simp (maxSteps := 1000000) (disch := omega) only [WS, List.getElem_cons_zero, List.getElem_cons_succ, Option.isNone_some, Option.isNone_none, List.getD_cons_zero, List.getD_cons_succ, I.at, atL, atO, atP, evp, evs, retV, ↓reduceIte, Nat.reduceEqDiff, reduceCtorEq, AS]
  refine X_call0 ((lch_ToMonomials_spec w6 sq q oq (by omega)).mono ?_)
  rintro _ w7 ⟨hB, ⟨k2, -, hlk2, sf, f, rfl, of, fl, hf⟩ | ⟨hbad, -⟩⟩
  rotate_left
  · exact absurd ok hbad
  obtain rfl := pk hlk2 ql
  have of := of.sl
  have oq := oq.up hB
  have ov := ov.up hB
  have B := B.trans (hB.mono B.size)
  clear hB
  simp (maxSteps := 1000000) (disch := omega) only [WS, List.getElem_cons_zero, List.getElem_cons_succ, Option.isNone_some, Option.isNone_none, List.getD_cons_zero, List.getD_cons_succ, I.at, atL, atO, atP, evp, evs, retV, ↓reduceIte, Nat.reduceEqDiff, reduceCtorEq, AS, ov.Xlen, vl, oq.Xlen, ql, dk]
  refine X_call0 ((polys_Over16_spec w7).mono ?_)
  rintro r w8 ⟨hr, hB, -⟩
  have oq := oq.up hB
  have ov := ov.up hB
  have of := of.up hB
  have B := B.trans (hB.mono B.size)
  clear hB
  simp (maxSteps := 1000000) (disch := omega) only [WS, List.getElem_cons_zero, List.getElem_cons_succ, Option.isNone_some, Option.isNone_none, List.getD_cons_zero, List.getD_cons_succ, I.at, atL, atO, atP, evp, evs, retV, ↓reduceIte, Nat.reduceEqDiff, reduceCtorEq, AS, ov.Xlen, vl]
  refine loop_of (fun t w' => t 0 = sq ∧ t 7 = .int .i64 (A : Int) ∧ t 8 = sv ∧ t 9 = sf ∧ t 11 = r ∧ t 68 = sv ∧ t 69 = .int .i64 ((2 ^ k2 : Nat) : Int) ∧ RowKit.Below w.heap.size w w' ∧ RowKit.Below w8.heap.size w8 w' ∧ ∃ i : Nat, t 70 = .int .i64 (i : Int) ∧ i ≤ 2 ^ k2) (fun t _ => 2 ^ k2 - (toI (t 70)).toNat)
    ⟨by simp only [WS, List.getElem_cons_zero, List.getElem_cons_succ, Option.isNone_some, Option.isNone_none, List.getD_cons_zero, List.getD_cons_succ, I.at, atL, atO, atP, evp, evs, retV, ↓reduceIte, Nat.reduceEqDiff, reduceCtorEq], by simp only [WS, List.getElem_cons_zero, List.getElem_cons_succ, Option.isNone_some, Option.isNone_none, List.getD_cons_zero, List.getD_cons_succ, I.at, atL, atO, atP, evp, evs, retV, ↓reduceIte, Nat.reduceEqDiff, reduceCtorEq], by simp only [WS, List.getElem_cons_zero, List.getElem_cons_succ, Option.isNone_some, Option.isNone_none, List.getD_cons_zero, List.getD_cons_succ, I.at, atL, atO, atP, evp, evs, retV, ↓reduceIte, Nat.reduceEqDiff, reduceCtorEq], by simp only [WS, List.getElem_cons_zero, List.getElem_cons_succ, Option.isNone_some, Option.isNone_none, List.getD_cons_zero, List.getD_cons_succ, I.at, atL, atO, atP, evp, evs, retV, ↓reduceIte, Nat.reduceEqDiff, reduceCtorEq], by simp only [WS, List.getElem_cons_zero, List.getElem_cons_succ, Option.isNone_some, Option.isNone_none, List.getD_cons_zero, List.getD_cons_succ, I.at, atL, atO, atP, evp, evs, retV, ↓reduceIte, Nat.reduceEqDiff, reduceCtorEq], by simp only [WS, List.getElem_cons_zero, List.getElem_cons_succ, Option.isNone_some, Option.isNone_none, List.getD_cons_zero, List.getD_cons_succ, I.at, atL, atO, atP, evp, evs, retV, ↓reduceIte, Nat.reduceEqDiff, reduceCtorEq], by simp only [WS, List.getElem_cons_zero, List.getElem_cons_succ, Option.isNone_some, Option.isNone_none, List.getD_cons_zero, List.getD_cons_succ, I.at, atL, atO, atP, evp, evs, retV, ↓reduceIte, Nat.reduceEqDiff, reduceCtorEq], B, RowKit.Below.refl _ _, 0, rfl, by omega⟩ ?_
  clear B
  rintro t w9 ⟨t0, t7, t8, t9, t11, t68, t69, B, B8, i, t70, hi⟩
  by_cases hik : i < 2 ^ k2
  · have iv : i < v.length := by omega
    have ov9 := ov.up B8
    simp (maxSteps := 1000000) (disch := omega) only [WS, List.getElem_cons_zero, List.getElem_cons_succ, Option.isNone_some, Option.isNone_none, List.getD_cons_zero, List.getD_cons_succ, I.at, atL, atO, atP, evp, evs, retV, ↓reduceIte, Nat.reduceEqDiff, reduceCtorEq, AS, t0, t7, t8, t9, t11, t68, t69, t70, ov9.Xix iv, ov9.Xld iv, cell_e16]
    refine X_call0 ((gf16_Element_spec w9 ((A + i : Nat) : Int)).mono ?_)
    rintro _ w10 ⟨hB, ⟨-, -, rfl⟩ | ⟨hbad, -⟩⟩
    rotate_left
    · exact absurd ⟨by omega, by omega⟩ hbad
    rw [Int.toNat_natCast]
    have B10 := B8.trans (hB.mono B8.size)
    have B := B.trans (hB.mono B.size)
    clear B8 hB
    simp (maxSteps := 1000000) (disch := omega) only [WS, List.getElem_cons_zero, List.getElem_cons_succ, Option.isNone_some, Option.isNone_none, List.getD_cons_zero, List.getD_cons_succ, I.at, atL, atO, atP, evp, evs, retV, ↓reduceIte, Nat.reduceEqDiff, reduceCtorEq, AS, t0, t7, t8, t9, t11, t68, t69, t70]
    refine X_call0 ((polys_Ring_w_Eval_spec w10 r sf f (wel (A + i)) (hr.up B10) (of.up B10) (by omega)).mono ?_)
    rintro _ w11 ⟨rfl, hB⟩
    have B11 := B10.trans (hB.mono B10.size)
    have B := B.trans (hB.mono B.size)
    clear hB
    have hev : evl f (wel (A + i)) = v[i] := by
      rw [evl_co, hf, fl, mP_ev (co q).c _ _ _ (Nat.le_refl _) (Nat.le_refl _), ← itF_ev A k2 (co q).c i hA1 hA2 hik, ← hv i hik, co_get v iv]
    rw [hev]
    simp (maxSteps := 1000000) (disch := omega) only [WS, List.getElem_cons_zero, List.getElem_cons_succ, Option.isNone_some, Option.isNone_none, List.getD_cons_zero, List.getD_cons_succ, I.at, atL, atO, atP, evp, evs, retV, ↓reduceIte, Nat.reduceEqDiff, reduceCtorEq, AS, t0, t7, t8, t9, t11, t68, t69, t70, show (!decide ((v[i].v.toNat : Int) = (v[i].v.toNat : Int))) = false by rw [decide_eq_true rfl]; rfl]
    exact ⟨⟨B, B11, i + 1, rfl, by omega⟩, by omega⟩
  obtain rfl : i = 2 ^ k2 := by omega
  simp (maxSteps := 1000000) (disch := omega) only [WS, List.getElem_cons_zero, List.getElem_cons_succ, Option.isNone_some, Option.isNone_none, List.getD_cons_zero, List.getD_cons_succ, I.at, atL, atO, atP, evp, evs, retV, ↓reduceIte, Nat.reduceEqDiff, reduceCtorEq, AS, t0, t7, t8, t9, t11, t68, t69, t70]
  refine X_call0 ((inv_any (ov.up B8) vl (by omega) hC).mono ?_)
  rintro _ w10 ⟨sb, b, rfl, ob, bl, hbv, hB⟩
  have oq := (oq.up B8).up hB
  have ob := ob.sl
  have B := B.trans (hB.mono B.size)
  clear hB
  have hbq : b = q := co_eq bl ql fun i hi => by rw [hbv i hi, itI_loc (n := 2 ^ k2) (Nat.mod_self _) hv i hi, itI_itF]
  simp (maxSteps := 1000000) (disch := omega) only [WS, List.getElem_cons_zero, List.getElem_cons_succ, Option.isNone_some, Option.isNone_none, List.getD_cons_zero, List.getD_cons_succ, I.at, atL, atO, atP, evp, evs, retV, ↓reduceIte, Nat.reduceEqDiff, reduceCtorEq, AS, t0]
  refine X_call0 ((cullettop_words_spec w10 sb sq b q ob oq (by omega) (by omega)).mono ?_)
  rintro _ w11 ⟨rfl, hk1⟩
  have hB := hk1.1
  have B := B.trans (hB.mono B.size)
  clear hB
  rw [decide_eq_true hbq]
  simp (maxSteps := 1000000) (disch := omega) only [WS, List.getElem_cons_zero, List.getElem_cons_succ, Option.isNone_some, Option.isNone_none, List.getD_cons_zero, List.getD_cons_succ, I.at, atL, atO, atP, evp, evs, retV, ↓reduceIte, Nat.reduceEqDiff, reduceCtorEq, AS]
  exact B
end Go.Proofs.Ytikaanmmdemaiaa.Fw
