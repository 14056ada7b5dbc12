import Derived.Test.YtpmfeaajpjjfiaaProg
import Derived.Test.YtpmfeaajpjjfiaaFwTP
import Derived.Test.YtpmfeaajpjjfiaaSS14aaP
import Derived.Test.YtpmfeaajpjjfiaaSS14mP
set_option linter.all false
set_option linter.unusedVariables false
set_option linter.unusedSimpArgs false
set_option maxRecDepth 100000
set_option maxHeartbeats 1000000
namespace Go.Proofs.Ytpmfeaajpjjfiaa.Fw
open Go Go.Fw Go.Proofs
attribute [local irreducible] stepI
def c_culletlaw14_AfftPowers : C := .seq (.ops [⟨0, (some 4), none, .mov (.c (.bool false)), []⟩]) (.seq (.ops [⟨0, (some 15), none, .call (.c (.func (.func 30) #[] #[])) [], []⟩, ⟨1, (some 5), none, .mov (.t 15), []⟩]) (.seq (.seq (.ops [⟨0, (some 16), none, .call (.c (.func (.func 14) #[] #[])) [], []⟩, ⟨1, (some 17), none, .un .not (.t 16), []⟩, ⟨2, (some 18), none, .mov (.t 17), []⟩, ⟨3, (some 19), (some (18, false)), .mov (.t 5), []⟩, ⟨4, (some 20), (some (18, false)), .eqp false (.t 19) (.c (.pointer none)), []⟩, ⟨5, (some 21), none, .pick (.t 18) (.c (.bool true)) (.t 20), []⟩]) (.ite (.t 21) (.seq (.ops [⟨0, (some 4), none, .mov (.c (.bool false)), []⟩]) .ret) .skip)) (.seq (.ops [⟨0, (some 22), none, .mov (.t 0), []⟩, ⟨1, (some 23), none, .call (.c (.func (.func 15) #[] #[])) [.t 22, .c (.int .i64 32)], []⟩, ⟨2, (some 0), none, .mov (.t 23), []⟩]) (.seq (.seq (.ops [⟨0, (some 24), none, .mov (.t 0), []⟩, ⟨1, (some 25), none, .len (.t 24), []⟩, ⟨2, (some 26), none, .bin .eql (.t 25) (.c (.int .i64 0)), []⟩]) (.ite (.t 26) (.seq (.ops [⟨0, (some 4), none, .mov (.c (.bool true)), []⟩]) .ret) .skip)) (.seq (.ops [⟨0, (some 27), none, .mov (.t 1), []⟩, ⟨1, (some 28), none, .mov (.t 0), []⟩, ⟨2, (some 29), none, .len (.t 28), []⟩, ⟨3, (some 30), none, .call (.c (.func (.func 16) #[] #[])) [.t 27, .t 29], []⟩, ⟨4, (some 6), none, .mov (.t 30), []⟩]) (.seq (.ops [⟨0, (some 32), none, .mov (.t 0), []⟩, ⟨1, (some 33), none, .call (.c (.func (.func 31) #[] #[])) [.t 32], []⟩, ⟨2, (some 31), none, .mov (.t 33), []⟩, ⟨3, (some 34), none, .ext (.t 31) 0, []⟩, ⟨4, (some 35), none, .ext (.t 31) 1, []⟩, ⟨5, (some 7), none, .mov (.t 34), []⟩, ⟨6, (some 8), none, .mov (.t 35), []⟩]) (.seq (.seq (.ops [⟨0, (some 36), none, .mov (.t 8), []⟩, ⟨1, (some 37), none, .bin .neq (.t 36) (.c (.int .i64 0)), []⟩, ⟨2, (some 38), none, .mov (.t 37), []⟩, ⟨3, (some 39), (some (38, false)), .mov (.t 7), []⟩, ⟨4, (some 40), (some (38, false)), .len (.t 39), []⟩, ⟨5, (some 41), (some (38, false)), .mov (.t 0), []⟩, ⟨6, (some 42), (some (38, false)), .len (.t 41), []⟩, ⟨7, (some 43), (some (38, false)), .bin .neq (.t 40) (.t 42), []⟩, ⟨8, (some 44), none, .pick (.t 38) (.c (.bool true)) (.t 43), []⟩]) (.ite (.t 44) (.seq (.ops [⟨0, (some 4), none, .mov (.c (.bool false)), []⟩]) .ret) .skip)) (.seq (.ops [⟨0, (some 46), none, .mov (.t 7), []⟩, ⟨1, (some 47), none, .mov (.t 6), []⟩, ⟨2, (some 48), none, .call (.c (.func (.func 18) #[] #[])) [.t 46, .t 47], []⟩, ⟨3, (some 45), none, .mov (.t 48), []⟩, ⟨4, (some 49), none, .ext (.t 45) 0, []⟩, ⟨5, (some 50), none, .ext (.t 45) 1, []⟩, ⟨6, (some 9), none, .mov (.t 49), []⟩, ⟨7, (some 8), none, .mov (.t 50), []⟩]) (.seq (.seq (.ops [⟨0, (some 51), none, .mov (.t 8), []⟩, ⟨1, (some 52), none, .bin .neq (.t 51) (.c (.int .i64 0)), []⟩, ⟨2, (some 53), none, .mov (.t 52), []⟩, ⟨3, (some 54), (some (53, false)), .mov (.t 9), []⟩, ⟨4, (some 55), (some (53, false)), .len (.t 54), []⟩, ⟨5, (some 56), (some (53, false)), .mov (.t 0), []⟩, ⟨6, (some 57), (some (53, false)), .len (.t 56), []⟩, ⟨7, (some 58), (some (53, false)), .bin .neq (.t 55) (.t 57), []⟩, ⟨8, (some 59), none, .pick (.t 53) (.c (.bool true)) (.t 58), []⟩]) (.ite (.t 59) (.seq (.ops [⟨0, (some 4), none, .mov (.c (.bool false)), []⟩]) .ret) .skip)) (.seq (.seq (.ops [⟨0, (some 10), none, .mov (.c (.int .i64 0)), []⟩]) (.block 0 (.loop (.seq (.seq (.ops [⟨0, (some 60), none, .mov (.t 10), []⟩, ⟨1, (some 61), none, .mov (.t 9), []⟩, ⟨2, (some 62), none, .len (.t 61), []⟩, ⟨3, (some 63), none, .bin .lss (.t 60) (.t 62), []⟩]) (.ite (.t 63) .skip (.exit 0))) (.seq (.block 1 (.seq (.ops [⟨0, (some 67), none, .mov (.t 6), []⟩, ⟨1, (some 68), none, .mov (.t 10), []⟩, ⟨2, (some 69), none, .bin .add (.t 67) (.t 68), []⟩, ⟨3, (some 70), none, .call (.c (.func (.func 27) #[] #[])) [.t 69], []⟩, ⟨4, (some 66), none, .mov (.t 70), []⟩, ⟨5, (some 71), none, .ext (.t 66) 0, []⟩, ⟨6, (some 72), none, .ext (.t 66) 1, []⟩, ⟨7, (some 11), none, .mov (.t 71), []⟩, ⟨8, (some 12), none, .mov (.t 72), []⟩]) (.seq (.dops [⟨0, (some 73), none, .mov (.t 12), []⟩, ⟨1, (some 74), none, .bin .neq (.t 73) (.c (.int .i64 0)), []⟩, ⟨2, (some 75), none, .mov (.t 74), []⟩, ⟨3, (some 76), (some (75, false)), .mov (.t 5), []⟩, ⟨4, (some 77), (some (75, false)), .mov (.t 0), []⟩, ⟨5, (some 78), (some (75, false)), .mov (.t 11), []⟩, ⟨6, (some 79), (some (75, false)), .call (.c (.func (.func 32) #[] #[])) [.t 76, .t 77, .t 78], []⟩, ⟨7, (some 80), (some (75, false)), .mov (.t 9), []⟩, ⟨8, (some 81), (some (75, false)), .mov (.t 10), []⟩, ⟨9, (some 82), (some (75, false)), .ixs 1 (.t 80) (.t 81), []⟩, ⟨10, (some 83), (some (75, false)), .ld (.t 82), [6]⟩, ⟨11, (some 84), (some (75, false)), .bin .neq (.t 79) (.t 83), []⟩, ⟨12, (some 85), none, .pick (.t 75) (.c (.bool true)) (.t 84), []⟩]) (.ite (.t 85) (.seq (.ops [⟨0, (some 4), none, .mov (.c (.bool false)), []⟩]) .ret) .skip)))) (.ops [⟨0, (some 64), none, .mov (.t 10), []⟩, ⟨1, (some 65), none, .bin .add (.t 64) (.c (.int .i64 1)), []⟩, ⟨2, (some 10), none, .mov (.t 65), []⟩])))))) (.seq (.ops [⟨0, (some 87), none, .mov (.t 9), []⟩, ⟨1, (some 88), none, .mov (.t 6), []⟩, ⟨2, (some 89), none, .call (.c (.func (.func 17) #[] #[])) [.t 87, .t 88], []⟩, ⟨3, (some 86), none, .mov (.t 89), []⟩, ⟨4, (some 90), none, .ext (.t 86) 0, []⟩, ⟨5, (some 91), none, .ext (.t 86) 1, []⟩, ⟨6, (some 13), none, .mov (.t 90), []⟩, ⟨7, (some 8), none, .mov (.t 91), []⟩]) (.seq (.seq (.ops [⟨0, (some 92), none, .mov (.t 8), []⟩, ⟨1, (some 93), none, .bin .neq (.t 92) (.c (.int .i64 0)), []⟩, ⟨2, (some 94), none, .mov (.t 93), []⟩, ⟨3, (some 95), (some (94, false)), .mov (.t 13), []⟩, ⟨4, (some 96), (some (94, false)), .len (.t 95), []⟩, ⟨5, (some 97), (some (94, false)), .mov (.t 0), []⟩, ⟨6, (some 98), (some (94, false)), .len (.t 97), []⟩, ⟨7, (some 99), (some (94, false)), .bin .neq (.t 96) (.t 98), []⟩, ⟨8, (some 100), none, .pick (.t 94) (.c (.bool true)) (.t 99), []⟩]) (.ite (.t 100) (.seq (.ops [⟨0, (some 4), none, .mov (.c (.bool false)), []⟩]) .ret) .skip)) (.seq (.ops [⟨0, (some 102), none, .mov (.t 13), []⟩, ⟨1, (some 103), none, .call (.c (.func (.func 33) #[] #[])) [.t 102], []⟩, ⟨2, (some 101), none, .mov (.t 103), []⟩, ⟨3, (some 104), none, .ext (.t 101) 0, []⟩, ⟨4, (some 105), none, .ext (.t 101) 1, []⟩, ⟨5, (some 14), none, .mov (.t 104), []⟩, ⟨6, (some 8), none, .mov (.t 105), []⟩]) (.seq (.ops [⟨0, (some 106), none, .mov (.t 8), []⟩, ⟨1, (some 107), none, .bin .eql (.t 106) (.c (.int .i64 0)), []⟩, ⟨2, (some 108), none, .mov (.t 107), []⟩, ⟨3, (some 109), (some (108, true)), .mov (.t 14), []⟩, ⟨4, (some 110), (some (108, true)), .mov (.t 0), []⟩, ⟨5, (some 111), (some (108, true)), .call (.c (.func (.func 19) #[] #[])) [.t 109, .t 110], []⟩, ⟨6, (some 112), none, .pick (.t 108) (.t 111) (.c (.bool false)), []⟩, ⟨7, (some 4), none, .mov (.t 112), []⟩]) .ret))))))))))))))
attribute [irreducible] c_culletlaw14_AfftPowers
theorem run_culletlaw14_AfftPowers {args : List Value} {w : World} {K : Value → World → Prop} (hn : args.length ≤ 113) (h : WP Try.prog c_culletlaw14_AfftPowers (endQ [.t 4] K) (initT args) w) : CallV Try.prog 13 args w K :=
  call_of follows Try.func13 (by kernel_rfl) (by kernel_rfl) hn h
end Go.Proofs.Ytpmfeaajpjjfiaa.Fw
namespace Go.Proofs.Ytpmfeaajpjjfiaa.Fw
open Go Go.Fw
theorem culletlaw14_AfftPowers_spec (w : World) (s : Value) (l : List (El 16)) (a : Int) (h : Sl w s l) (hb : l.length ≤ 70368744175616) (ha : -9223372036854775808 ≤ a ∧ a ≤ 9223372036854775807) :
    CallV Try.prog 13 [s, .int .i64 a] w fun v w' => v = .bool true ∧ RowKit.Below w.heap.size w w' := by
  refine run_culletlaw14_AfftPowers (by simp) ?_
  simp only [c_culletlaw14_AfftPowers, WS, List.getElem_cons_zero, List.getElem_cons_succ, Option.isNone_some, Option.isNone_none, List.getD_cons_zero, List.getD_cons_succ, I.at, atL, atO, atP, evp, evs, retV, ↓reduceIte, Nat.reduceEqDiff, reduceCtorEq]
  refine X_call0 ((polys_Over16_spec w).mono ?_)
  rintro r w1 ⟨hr, hB, -⟩
  have B := hB
  have h := h.up hB
  clear hB
  simp (maxSteps := 1000000) (disch := omega) only [WS, List.getElem_cons_zero, List.getElem_cons_succ, Option.isNone_some, Option.isNone_none, List.getD_cons_zero, List.getD_cons_succ, I.at, atL, atO, atP, evp, evs, retV, ↓reduceIte, Nat.reduceEqDiff, reduceCtorEq, AS]
  refine X_call0 ((culletlaw14_awake_spec w1).mono ?_)
  rintro _ w2 ⟨rfl, hB⟩
  have h := h.up hB
  have hr := hr.up hB
  have B := B.trans (hB.mono B.size)
  clear hB
  obtain ⟨rb, rm, ri, hre, -, -, -⟩ := id hr
  simp (maxSteps := 1000000) (disch := omega) only [WS, List.getElem_cons_zero, List.getElem_cons_succ, Option.isNone_some, Option.isNone_none, List.getD_cons_zero, List.getD_cons_succ, I.at, atL, atO, atP, evp, evs, retV, ↓reduceIte, Nat.reduceEqDiff, reduceCtorEq, hre, Option.isNone_some]
  rw [← hre]
  refine X_call0 ((cut_any (m := 32) h (by omega) (by omega)).mono ?_)
  rintro s1 w' ⟨rfl, n, hs, hn1, hn4, hnk⟩
  have hL : (l.take n).length = n := by rw [List.length_take]; omega
  generalize l.take n = V at hs hL
  by_cases hn0 : n = 0
  · simp (maxSteps := 1000000) (disch := omega) only [WS, List.getElem_cons_zero, List.getElem_cons_succ, Option.isNone_some, Option.isNone_none, List.getD_cons_zero, List.getD_cons_succ, I.at, atL, atO, atP, evp, evs, retV, ↓reduceIte, Nat.reduceEqDiff, reduceCtorEq, AS, hs.Xlen, hL]
    exact B
  obtain ⟨k, hk, rfl⟩ : ∃ k, k ≤ 16 ∧ n = 2 ^ k := by rcases hnk with h | h; exact absurd h.1 hn0; exact h
  have hp := Nat.two_pow_pos k
  clear hnk h
  have ok : ∀ m : List (El 16), m.length = 2 ^ k → 1 ≤ m.length ∧ m.length ≤ 256 ∧ m.length &&& (m.length - 1) = 0 := fun m hm => ⟨by omega, by omega, by rw [hm]; exact and_pred_pow k⟩
  have pk : ∀ {k2 : Nat} {n : Nat}, n = 2 ^ k2 → n = 2 ^ k → k2 = k := fun h1 h2 => (Nat.pow_right_inj (a := 2) (by omega)).1 (h1.symm.trans h2)
  have dk : (!decide (((2 ^ k : Nat) : Int) = ((2 ^ k : Nat) : Int))) = false := by rw [decide_eq_true rfl]; rfl
  simp (maxSteps := 1000000) (disch := omega) only [WS, List.getElem_cons_zero, List.getElem_cons_succ, Option.isNone_some, Option.isNone_none, List.getD_cons_zero, List.getD_cons_succ, I.at, atL, atO, atP, evp, evs, retV, ↓reduceIte, Nat.reduceEqDiff, reduceCtorEq, AS, hs.Xlen, hL]
  refine X_call0 ((culletlaw14_begin_spec _ a k hk ha).mono ?_)
  rintro _ w2 ⟨rfl, p, rfl, hp1, hp2⟩
  have hP := isC_of hp1 hp2
  simp (maxSteps := 1000000) (disch := omega) only [WS, List.getElem_cons_zero, List.getElem_cons_succ, Option.isNone_some, Option.isNone_none, List.getD_cons_zero, List.getD_cons_succ, I.at, atL, atO, atP, evp, evs, retV, ↓reduceIte, Nat.reduceEqDiff, reduceCtorEq, AS]
  refine X_call0 ((lch_FromMonomials_spec w2 s1 V hs (by omega)).mono ?_)
  rintro _ w3 ⟨hB, ⟨k2, -, hlk2, sd, d, rfl, od, dl, hd⟩ | ⟨hbad, -⟩⟩
  rotate_left
  · exact absurd (ok V hL) hbad
  obtain rfl := pk hlk2 hL
  have od := od.sl
  have hs := hs.up hB
  have hr := hr.up hB
  have B := B.trans (hB.mono B.size)
  clear hB
  simp (maxSteps := 1000000) (disch := omega) only [WS, List.getElem_cons_zero, List.getElem_cons_succ, Option.isNone_some, Option.isNone_none, List.getD_cons_zero, List.getD_cons_succ, I.at, atL, atO, atP, evp, evs, retV, ↓reduceIte, Nat.reduceEqDiff, reduceCtorEq, AS, od.Xlen, dl, hs.Xlen, hL, dk]
  refine X_call0 ((fwd_any od dl hk hP).mono ?_)
  rintro _ w4 ⟨sv, v, rfl, ov, vl, hv, hB⟩
  have ov := ov.sl
  have hs := hs.up hB
  have hr := hr.up hB
  have B := B.trans (hB.mono B.size)
  clear hB
  simp (maxSteps := 1000000) (disch := omega) only [WS, List.getElem_cons_zero, List.getElem_cons_succ, Option.isNone_some, Option.isNone_none, List.getD_cons_zero, List.getD_cons_succ, I.at, atL, atO, atP, evp, evs, retV, ↓reduceIte, Nat.reduceEqDiff, reduceCtorEq, AS, ov.Xlen, vl, hs.Xlen, hL, dk]
  refine loop_of (fun t w' => t 0 = s1 ∧ t 5 = r ∧ t 6 = .int .i64 (p : Int) ∧ t 9 = sv ∧ RowKit.Below w.heap.size w w' ∧ Ring_w w' r ∧ Sl w' s1 V ∧ Sl w' sv v ∧ ∃ i : Nat, t 10 = .int .i64 (i : Int) ∧ i ≤ 2 ^ k2) (fun t _ => 2 ^ k2 - (toI (t 10)).toNat) ⟨by simp only [WS, List.getElem_cons_zero, List.getElem_cons_succ, Option.isNone_some, Option.isNone_none, List.getD_cons_zero, List.getD_cons_succ, I.at, atL, atO, atP, evp, evs, retV, ↓reduceIte, Nat.reduceEqDiff, reduceCtorEq], by simp only [WS, List.getElem_cons_zero, List.getElem_cons_succ, Option.isNone_some, Option.isNone_none, List.getD_cons_zero, List.getD_cons_succ, I.at, atL, atO, atP, evp, evs, retV, ↓reduceIte, Nat.reduceEqDiff, reduceCtorEq], by simp only [WS, List.getElem_cons_zero, List.getElem_cons_succ, Option.isNone_some, Option.isNone_none, List.getD_cons_zero, List.getD_cons_succ, I.at, atL, atO, atP, evp, evs, retV, ↓reduceIte, Nat.reduceEqDiff, reduceCtorEq], by simp only [WS, List.getElem_cons_zero, List.getElem_cons_succ, Option.isNone_some, Option.isNone_none, List.getD_cons_zero, List.getD_cons_succ, I.at, atL, atO, atP, evp, evs, retV, ↓reduceIte, Nat.reduceEqDiff, reduceCtorEq], B, hr, hs, ov, 0, rfl, by omega⟩ ?_
  clear B hs ov hr
  rintro t w5 ⟨t0, t5, t6, t9, B, hr, hs, ov, i, t10, hi⟩
  by_cases hik : i < 2 ^ k2
  · have iv : i < v.length := by omega
    simp (maxSteps := 1000000) (disch := omega) only [WS, List.getElem_cons_zero, List.getElem_cons_succ, Option.isNone_some, Option.isNone_none, List.getD_cons_zero, List.getD_cons_succ, I.at, atL, atO, atP, evp, evs, retV, ↓reduceIte, Nat.reduceEqDiff, reduceCtorEq, AS, t0, t5, t6, t9, t10, ov.Xlen, vl]
    refine X_call0 ((gf16_Element_spec w5 ((p + i : Nat) : Int)).mono ?_)
    rintro _ w6 ⟨hB, ⟨-, -, rfl⟩ | ⟨hbad, -⟩⟩
    rotate_left
    · exact absurd ⟨by omega, by omega⟩ hbad
    rw [Int.toNat_natCast]
    have hs := hs.up hB
    have hr := hr.up hB
    have ov := ov.up hB
    have B := B.trans (hB.mono B.size)
    clear hB
    have hev : evl V (wel (p + i)) = v[i] := by
      rw [evl_co, ← hd, hL, mP_ev (co d).c _ _ _ (Nat.le_refl _) (Nat.le_refl _), ← itF_ev p k2 (co d).c i hp1 hp2 hik, ← hv i hik, co_get v iv]
    simp (maxSteps := 1000000) (disch := omega) only [WS, List.getElem_cons_zero, List.getElem_cons_succ, Option.isNone_some, Option.isNone_none, List.getD_cons_zero, List.getD_cons_succ, I.at, atL, atO, atP, evp, evs, retV, ↓reduceIte, Nat.reduceEqDiff, reduceCtorEq, AS, t0, t5, t6, t9, t10]
    refine WP_dops ?_
    have d0 : (!decide ((0 : Int) = 0)) = false := rfl
    simp (maxSteps := 1000000) (disch := omega) only [ES, List.mem_cons, List.not_mem_nil, implies_true, forall_const, WS, List.getElem_cons_zero, List.getElem_cons_succ, Option.isNone_some, Option.isNone_none, List.getD_cons_zero, List.getD_cons_succ, I.at, atL, atO, atP, evp, evs, retV, ↓reduceIte, Nat.reduceEqDiff, reduceCtorEq, AS, t0, t5, t6, t9, t10, d0]
    have ovd := ov.drew
    have see : Fw.sees Try.prog (.ld (.c (elP sv i))) w6.drew (.int .u16 (v[i].v.toNat : Int)) = True := ovd.sees iv Try.prog
    refine E_call0 ((polys_Ring_w_Eval_spec w6.drew r s1 V (wel (p + i)) hr.drew hs.drew (by omega)).mono ?_)
    rintro _ w7 ⟨rfl, hB⟩
    have ov7 := ovd.up hB
    simp (maxSteps := 1000000) (disch := omega) only [ES, List.mem_cons, List.not_mem_nil, implies_true, forall_const, WS, List.getElem_cons_zero, List.getElem_cons_succ, Option.isNone_some, Option.isNone_none, List.getD_cons_zero, List.getD_cons_succ, I.at, atL, atO, atP, evp, evs, retV, ↓reduceIte, Nat.reduceEqDiff, reduceCtorEq, AS, t0, t5, t6, t9, t10, ov7.Eix iv, ov7.Eld iv, cell_e16, see, hev, show (!decide ((v[i].v.toNat : Int) = (v[i].v.toNat : Int))) = false by rw [decide_eq_true rfl]; rfl]
    exact ⟨⟨(B.trans ((bel_drew w6).mono B.size)).trans (hB.mono B.size), hr.drew.up hB, hs.drew.up hB, ov7, i + 1, rfl, by omega⟩, by omega⟩
  obtain rfl : i = 2 ^ k2 := by omega
  simp (maxSteps := 1000000) (disch := omega) only [WS, List.getElem_cons_zero, List.getElem_cons_succ, Option.isNone_some, Option.isNone_none, List.getD_cons_zero, List.getD_cons_succ, I.at, atL, atO, atP, evp, evs, retV, ↓reduceIte, Nat.reduceEqDiff, reduceCtorEq, AS, t0, t5, t6, t9, t10, ov.Xlen, vl]
  refine X_call0 ((inv_any ov vl hk hP).mono ?_)
  rintro _ w10 ⟨sb, b, rfl, ob, bl, hbv, hB⟩
  have ob := ob.sl
  have hs := hs.up hB
  have B := B.trans (hB.mono B.size)
  clear hB
  have hbd : b = d := co_eq bl dl fun i hi => by rw [hbv i hi, itI_loc (n := 2 ^ k2) (Nat.mod_self _) hv i hi, itI_itF]
  simp (maxSteps := 1000000) (disch := omega) only [WS, List.getElem_cons_zero, List.getElem_cons_succ, Option.isNone_some, Option.isNone_none, List.getD_cons_zero, List.getD_cons_succ, I.at, atL, atO, atP, evp, evs, retV, ↓reduceIte, Nat.reduceEqDiff, reduceCtorEq, AS, t0, ob.Xlen, bl, hs.Xlen, hL, dk]
  refine X_call0 ((lch_ToMonomials_spec w10 sb b ob (by omega)).mono ?_)
  rintro _ w11 ⟨hB, ⟨k3, -, hlk3, sm, m, rfl, om, ml, hm⟩ | ⟨hbad, -⟩⟩
  rotate_left
  · exact absurd (ok b bl) hbad
  obtain rfl := pk hlk3 bl
  have om := om.sl
  have hs := hs.up hB
  have B := B.trans (hB.mono B.size)
  clear hB
  have hmV : m = V := co_ext (ml.trans hL.symm) (by rw [hm, hbd, hd])
  simp (maxSteps := 1000000) (disch := omega) only [WS, List.getElem_cons_zero, List.getElem_cons_succ, Option.isNone_some, Option.isNone_none, List.getD_cons_zero, List.getD_cons_succ, I.at, atL, atO, atP, evp, evs, retV, ↓reduceIte, Nat.reduceEqDiff, reduceCtorEq, AS, t0]
  refine X_call0 ((culletlaw14_alike_spec w11 sm s1 m V om hs (by omega) (by omega)).mono ?_)
  rintro _ w12 ⟨rfl, hk1⟩
  have hB := hk1.1
  have B := B.trans (hB.mono B.size)
  clear hB
  rw [decide_eq_true hmV]
  simp (maxSteps := 1000000) (disch := omega) only [WS, List.getElem_cons_zero, List.getElem_cons_succ, Option.isNone_some, Option.isNone_none, List.getD_cons_zero, List.getD_cons_succ, I.at, atL, atO, atP, evp, evs, retV, ↓reduceIte, Nat.reduceEqDiff, reduceCtorEq, AS]
  exact B
end Go.Proofs.Ytpmfeaajpjjfiaa.Fw
