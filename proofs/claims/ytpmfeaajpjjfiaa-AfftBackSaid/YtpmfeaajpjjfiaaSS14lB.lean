import Derived.Test.YtpmfeaajpjjfiaaProg
import Derived.Test.YtpmfeaajpjjfiaaFwTB
import Derived.Test.YtpmfeaajpjjfiaaSS14kB
set_option linter.all false
set_option linter.unusedVariables false
set_option linter.unusedSimpArgs false
set_option maxRecDepth 100000
set_option maxHeartbeats 1000000
namespace Go.Proofs.Ytpmfeaajpjjfiaa.Fw
open Go Go.Fw Go.Proofs
attribute [local irreducible] stepI
def c_culletlaw14_AfftBack : C := .seq (.ops [⟨0, (some 4), none, .mov (.c (.bool false)), []⟩]) (.seq (.seq (.ops [⟨0, (some 14), none, .call (.c (.func (.func 14) #[] #[])) [], []⟩, ⟨1, (some 15), none, .un .not (.t 14), []⟩]) (.ite (.t 15) (.seq (.ops [⟨0, (some 4), none, .mov (.c (.bool false)), []⟩]) .ret) .skip)) (.seq (.ops [⟨0, (some 16), none, .mov (.t 0), []⟩, ⟨1, (some 17), none, .call (.c (.func (.func 15) #[] #[])) [.t 16, .c (.int .i64 65536)], []⟩, ⟨2, (some 0), none, .mov (.t 17), []⟩]) (.seq (.seq (.ops [⟨0, (some 18), none, .mov (.t 0), []⟩, ⟨1, (some 19), none, .len (.t 18), []⟩, ⟨2, (some 20), none, .bin .eql (.t 19) (.c (.int .i64 0)), []⟩]) (.ite (.t 20) (.seq (.ops [⟨0, (some 4), none, .mov (.c (.bool true)), []⟩]) .ret) .skip)) (.seq (.ops [⟨0, (some 21), none, .mov (.t 1), []⟩, ⟨1, (some 22), none, .mov (.t 0), []⟩, ⟨2, (some 23), none, .len (.t 22), []⟩, ⟨3, (some 24), none, .call (.c (.func (.func 16) #[] #[])) [.t 21, .t 23], []⟩, ⟨4, (some 5), none, .mov (.t 24), []⟩]) (.seq (.ops [⟨0, (some 26), none, .mov (.t 0), []⟩, ⟨1, (some 27), none, .mov (.t 5), []⟩, ⟨2, (some 28), none, .call (.c (.func (.func 17) #[] #[])) [.t 26, .t 27], []⟩, ⟨3, (some 25), none, .mov (.t 28), []⟩, ⟨4, (some 29), none, .ext (.t 25) 0, []⟩, ⟨5, (some 30), none, .ext (.t 25) 1, []⟩, ⟨6, (some 6), none, .mov (.t 29), []⟩, ⟨7, (some 7), none, .mov (.t 30), []⟩]) (.seq (.ops [⟨0, (some 32), none, .mov (.t 6), []⟩, ⟨1, (some 33), none, .mov (.t 5), []⟩, ⟨2, (some 34), none, .call (.c (.func (.func 18) #[] #[])) [.t 32, .t 33], []⟩, ⟨3, (some 31), none, .mov (.t 34), []⟩, ⟨4, (some 35), none, .ext (.t 31) 0, []⟩, ⟨5, (some 36), none, .ext (.t 31) 1, []⟩, ⟨6, (some 8), none, .mov (.t 35), []⟩, ⟨7, (some 9), none, .mov (.t 36), []⟩]) (.seq (.ops [⟨0, (some 38), none, .mov (.t 0), []⟩, ⟨1, (some 39), none, .mov (.t 5), []⟩, ⟨2, (some 40), none, .call (.c (.func (.func 18) #[] #[])) [.t 38, .t 39], []⟩, ⟨3, (some 37), none, .mov (.t 40), []⟩, ⟨4, (some 41), none, .ext (.t 37) 0, []⟩, ⟨5, (some 42), none, .ext (.t 37) 1, []⟩, ⟨6, (some 10), none, .mov (.t 41), []⟩, ⟨7, (some 11), none, .mov (.t 42), []⟩]) (.seq (.ops [⟨0, (some 44), none, .mov (.t 10), []⟩, ⟨1, (some 45), none, .mov (.t 5), []⟩, ⟨2, (some 46), none, .call (.c (.func (.func 17) #[] #[])) [.t 44, .t 45], []⟩, ⟨3, (some 43), none, .mov (.t 46), []⟩, ⟨4, (some 47), none, .ext (.t 43) 0, []⟩, ⟨5, (some 48), none, .ext (.t 43) 1, []⟩, ⟨6, (some 12), none, .mov (.t 47), []⟩, ⟨7, (some 13), none, .mov (.t 48), []⟩]) (.seq (.seq (.ops [⟨0, (some 49), none, .mov (.t 7), []⟩, ⟨1, (some 50), none, .bin .neq (.t 49) (.c (.int .i64 0)), []⟩, ⟨2, (some 51), none, .mov (.t 50), []⟩, ⟨3, (some 52), (some (51, false)), .mov (.t 9), []⟩, ⟨4, (some 53), (some (51, false)), .bin .neq (.t 52) (.c (.int .i64 0)), []⟩, ⟨5, (some 54), none, .pick (.t 51) (.c (.bool true)) (.t 53), []⟩, ⟨6, (some 55), none, .mov (.t 54), []⟩, ⟨7, (some 56), (some (55, false)), .mov (.t 11), []⟩, ⟨8, (some 57), (some (55, false)), .bin .neq (.t 56) (.c (.int .i64 0)), []⟩, ⟨9, (some 58), none, .pick (.t 55) (.c (.bool true)) (.t 57), []⟩, ⟨10, (some 59), none, .mov (.t 58), []⟩, ⟨11, (some 60), (some (59, false)), .mov (.t 13), []⟩, ⟨12, (some 61), (some (59, false)), .bin .neq (.t 60) (.c (.int .i64 0)), []⟩, ⟨13, (some 62), none, .pick (.t 59) (.c (.bool true)) (.t 61), []⟩, ⟨14, (some 63), none, .mov (.t 62), []⟩, ⟨15, (some 64), (some (63, false)), .mov (.t 8), []⟩, ⟨16, (some 65), (some (63, false)), .mov (.t 0), []⟩, ⟨17, (some 66), (some (63, false)), .call (.c (.func (.func 19) #[] #[])) [.t 64, .t 65], []⟩, ⟨18, (some 67), (some (63, false)), .un .not (.t 66), []⟩, ⟨19, (some 68), none, .pick (.t 63) (.c (.bool true)) (.t 67), []⟩, ⟨20, (some 69), none, .mov (.t 68), []⟩, ⟨21, (some 70), (some (69, false)), .mov (.t 12), []⟩, ⟨22, (some 71), (some (69, false)), .mov (.t 0), []⟩, ⟨23, (some 72), (some (69, false)), .call (.c (.func (.func 19) #[] #[])) [.t 70, .t 71], []⟩, ⟨24, (some 73), (some (69, false)), .un .not (.t 72), []⟩, ⟨25, (some 74), none, .pick (.t 69) (.c (.bool true)) (.t 73), []⟩]) (.ite (.t 74) (.seq (.ops [⟨0, (some 4), none, .mov (.c (.bool false)), []⟩]) .ret) .skip)) (.seq (.ops [⟨0, (some 75), none, .mov (.t 0), []⟩, ⟨1, (some 76), none, .len (.t 75), []⟩, ⟨2, (some 77), none, .bin .gtr (.t 76) (.c (.int .i64 1)), []⟩, ⟨3, (some 78), none, .mov (.t 77), []⟩, ⟨4, (some 79), (some (78, false)), .mov (.t 10), []⟩, ⟨5, (some 80), (some (78, false)), .mov (.t 0), []⟩, ⟨6, (some 81), (some (78, false)), .call (.c (.func (.func 19) #[] #[])) [.t 79, .t 80], []⟩, ⟨7, (some 82), (some (78, false)), .mov (.t 81), []⟩, ⟨8, (some 83), (some (82, true)), .mov (.t 6), []⟩, ⟨9, (some 84), (some (82, true)), .mov (.t 0), []⟩, ⟨10, (some 85), (some (82, true)), .call (.c (.func (.func 19) #[] #[])) [.t 83, .t 84], []⟩, ⟨11, (some 86), (some (78, false)), .pick (.t 82) (.t 85) (.c (.bool false)), []⟩, ⟨12, (some 87), none, .pick (.t 78) (.c (.bool true)) (.t 86), []⟩, ⟨13, (some 4), none, .mov (.t 87), []⟩]) .ret))))))))))
attribute [irreducible] c_culletlaw14_AfftBack
theorem run_culletlaw14_AfftBack {args : List Value} {w : World} {K : Value → World → Prop} (hn : args.length ≤ 88) (h : WP Try.prog c_culletlaw14_AfftBack (endQ [.t 4] K) (initT args) w) : CallV Try.prog 4 args w K :=
  call_of follows Try.func4 (by kernel_rfl) (by kernel_rfl) hn h
end Go.Proofs.Ytpmfeaajpjjfiaa.Fw
namespace Go.Proofs.Ytpmfeaajpjjfiaa.Fw
open Go Go.Fw
theorem fwd_any {w : World} {s : Value} {l : List (El 16)} {a k : Nat} (h : Sl w s l) (hl : l.length = 2 ^ k) (hk : k ≤ 16) (hc : isC (a : Int) (2 ^ k) (2 ^ k) = true) :
    CallV Try.prog 18 [s, .int .i64 (a : Int)] w fun v w' => ∃ sv m, v = .tuple #[sv, .int .i64 0] ∧ Ow w.heap.size w' sv m ∧ m.length = 2 ^ k ∧ (∀ i, i < 2 ^ k → (co m).c i = itF a k (co l).c i) ∧ RowKit.Below w.heap.size w w' := by
  have hp := pow_le16 hk
  refine (afft_Forward_spec w s l a h (by omega)).mono ?_
  rintro _ w' ⟨hB, ⟨k', hk', hlk', -, sv, m, rfl, om, lm, hm⟩ | ⟨hbad, -⟩ | ⟨-, hbad, -⟩⟩
  · obtain rfl : k' = k := pow2_inj (by omega)
    rw [Int.toNat_natCast] at hm
    exact ⟨sv, m, rfl, om, by omega, hm, hB⟩
  · rw [hl, (isP_iff _).2 ⟨k, hk, rfl⟩] at hbad; cases hbad
  · rw [hl, hc] at hbad; cases hbad
theorem inv_any {w : World} {s : Value} {l : List (El 16)} {a k : Nat} (h : Sl w s l) (hl : l.length = 2 ^ k) (hk : k ≤ 16) (hc : isC (a : Int) (2 ^ k) (2 ^ k) = true) :
    CallV Try.prog 17 [s, .int .i64 (a : Int)] w fun v w' => ∃ sv m, v = .tuple #[sv, .int .i64 0] ∧ Ow w.heap.size w' sv m ∧ m.length = 2 ^ k ∧ (∀ i, i < 2 ^ k → (co m).c i = itI a k (co l).c i) ∧ RowKit.Below w.heap.size w w' := by
  have hp := pow_le16 hk
  refine (afft_Inverse_spec w s l a h (by omega)).mono ?_
  rintro _ w' ⟨hB, ⟨k', hk', hlk', -, sv, m, rfl, om, lm, hm⟩ | ⟨hbad, -⟩ | ⟨-, hbad, -⟩⟩
  · obtain rfl : k' = k := pow2_inj (by omega)
    rw [Int.toNat_natCast] at hm
    exact ⟨sv, m, rfl, om, by omega, hm, hB⟩
  · rw [hl, (isP_iff _).2 ⟨k, hk, rfl⟩] at hbad; cases hbad
  · rw [hl, hc] at hbad; cases hbad
theorem isC_of {s k : Nat} (h1 : s % 2 ^ k = 0) (h2 : s + 2 ^ k ≤ 65536) : isC (s : Int) (2 ^ k) (2 ^ k) = true := by
  unfold isC
  exact decide_eq_true ⟨by omega, by omega, by omega, by rw [Int.toNat_natCast]; exact h1⟩
theorem co_eq {m l : List (El 16)} {n : Nat} (hm : m.length = n) (hl : l.length = n) (h : ∀ i, i < n → (co m).c i = (co l).c i) : m = l := by
  rw [list_co hm h]
  exact (list_co hl (fun i _ => rfl)).symm
theorem culletlaw14_AfftBack_spec (w : World) (s : Value) (l : List (El 16)) (a : Int) (h : Sl w s l) (hb : l.length ≤ 70368744175616) (ha : -9223372036854775808 ≤ a ∧ a ≤ 9223372036854775807) :
    CallV Try.prog 4 [s, .int .i64 a] w fun v w' => v = .bool true ∧ RowKit.Below w.heap.size w w' := by
  refine run_culletlaw14_AfftBack (by simp) ?_
  simp only [c_culletlaw14_AfftBack, WS, List.getElem_cons_zero, List.getElem_cons_succ, Option.isNone_some, Option.isNone_none, List.getD_cons_zero, List.getD_cons_succ, I.at, atL, atO, atP, evp, evs, retV, ↓reduceIte, Nat.reduceEqDiff, reduceCtorEq]
  refine X_call0 ((culletlaw14_awake_spec w).mono ?_)
  rintro _ w1 ⟨rfl, hB⟩
  have B := hB
  have h := h.up hB
  clear hB
  simp (maxSteps := 1000000) (disch := omega) only [WS, List.getElem_cons_zero, List.getElem_cons_succ, Option.isNone_some, Option.isNone_none, List.getD_cons_zero, List.getD_cons_succ, I.at, atL, atO, atP, evp, evs, retV, ↓reduceIte, Nat.reduceEqDiff, reduceCtorEq, AS]
  refine X_call0 ((culletlaw14_cut_spec w1 s l 65536 h (by omega) (by omega)).mono ?_)
  rintro v w' ⟨rfl, ⟨h0, rfl⟩ | ⟨k, hk, hkl, -, rfl⟩⟩
  · simp (maxSteps := 1000000) (disch := omega) only [WS, List.getElem_cons_zero, List.getElem_cons_succ, Option.isNone_some, Option.isNone_none, List.getD_cons_zero, List.getD_cons_succ, I.at, atL, atO, atP, evp, evs, retV, ↓reduceIte, Nat.reduceEqDiff, reduceCtorEq, AS, h.Xlen]
    exact B
  have hp := Nat.two_pow_pos k
  have hs := h.sub (Nat.zero_le (2 ^ k)) hkl
  generalize Fw.sub s 0 (2 ^ k) = s1 at hs
  have hL : ((l.take (2 ^ k)).drop 0).length = 2 ^ k := by rw [List.drop_zero, List.length_take]; omega
  generalize (l.take (2 ^ k)).drop 0 = V at hs hL
  clear h
  simp (maxSteps := 1000000) (disch := omega) only [WS, List.getElem_cons_zero, List.getElem_cons_succ, Option.isNone_some, Option.isNone_none, List.getD_cons_zero, List.getD_cons_succ, I.at, atL, atO, atP, evp, evs, retV, ↓reduceIte, Nat.reduceEqDiff, reduceCtorEq, AS, hs.Xlen, hL]
  refine X_call0 ((culletlaw14_begin_spec w' a k hk ha).mono ?_)
  rintro _ w2 ⟨rfl, p, rfl, hp1, hp2⟩
  have hC := isC_of hp1 hp2
  simp (maxSteps := 1000000) (disch := omega) only [WS, List.getElem_cons_zero, List.getElem_cons_succ, Option.isNone_some, Option.isNone_none, List.getD_cons_zero, List.getD_cons_succ, I.at, atL, atO, atP, evp, evs, retV, ↓reduceIte, Nat.reduceEqDiff, reduceCtorEq, AS]
  refine X_call0 ((inv_any hs hL hk hC).mono ?_)
  rintro _ w3 ⟨sd, d, rfl, od, ld, hd, hB⟩
  have od := od.sl
  have hs := hs.up hB
  have B := B.trans (hB.mono B.size)
  clear hB
  simp (maxSteps := 1000000) (disch := omega) only [WS, List.getElem_cons_zero, List.getElem_cons_succ, Option.isNone_some, Option.isNone_none, List.getD_cons_zero, List.getD_cons_succ, I.at, atL, atO, atP, evp, evs, retV, ↓reduceIte, Nat.reduceEqDiff, reduceCtorEq, AS]
  refine X_call0 ((fwd_any od ld hk hC).mono ?_)
  rintro _ w4 ⟨sw, ww, rfl, ow, lw, hw, hB⟩
  have ow := ow.sl
  have hs := hs.up hB
  have od := od.up hB
  have B := B.trans (hB.mono B.size)
  clear hB
  simp (maxSteps := 1000000) (disch := omega) only [WS, List.getElem_cons_zero, List.getElem_cons_succ, Option.isNone_some, Option.isNone_none, List.getD_cons_zero, List.getD_cons_succ, I.at, atL, atO, atP, evp, evs, retV, ↓reduceIte, Nat.reduceEqDiff, reduceCtorEq, AS]
  refine X_call0 ((fwd_any hs hL hk hC).mono ?_)
  rintro _ w5 ⟨sc, c, rfl, oc, lc, hc, hB⟩
  have oc := oc.sl
  have hs := hs.up hB
  have od := od.up hB
  have ow := ow.up hB
  have B := B.trans (hB.mono B.size)
  clear hB
  simp (maxSteps := 1000000) (disch := omega) only [WS, List.getElem_cons_zero, List.getElem_cons_succ, Option.isNone_some, Option.isNone_none, List.getD_cons_zero, List.getD_cons_succ, I.at, atL, atO, atP, evp, evs, retV, ↓reduceIte, Nat.reduceEqDiff, reduceCtorEq, AS]
  refine X_call0 ((inv_any oc lc hk hC).mono ?_)
  rintro _ w6 ⟨sx, x, rfl, ox, lx, hx, hB⟩
  have ox := ox.sl
  have hs := hs.up hB
  have od := od.up hB
  have ow := ow.up hB
  have oc := oc.up hB
  have B := B.trans (hB.mono B.size)
  clear hB
  have e1 : ww = V := co_eq lw hL fun i hi => by rw [hw i hi, itF_loc (n := 2 ^ k) (Nat.mod_self _) hd i hi, itF_itI]
  have e2 : x = V := co_eq lx hL fun i hi => by rw [hx i hi, itI_loc (n := 2 ^ k) (Nat.mod_self _) hc i hi, itI_itF]
  subst e1
  subst e2
  have hp16 := pow_le16 hk
  simp (maxSteps := 1000000) (disch := omega) only [WS, List.getElem_cons_zero, List.getElem_cons_succ, Option.isNone_some, Option.isNone_none, List.getD_cons_zero, List.getD_cons_succ, I.at, atL, atO, atP, evp, evs, retV, ↓reduceIte, Nat.reduceEqDiff, reduceCtorEq, AS]
  refine X_call0 ((culletlaw14_alike_spec w6 sw s1 _ _ ow hs (by omega) (by omega)).mono ?_)
  rintro _ w7 ⟨rfl, hk1⟩
  have hB := hk1.1
  have hs := hs.up hB
  have od := od.up hB
  have ox := ox.up hB
  have oc := oc.up hB
  have B := B.trans (hB.mono B.size)
  clear hB
  clear hk1
  simp only [decide_true]
  simp (maxSteps := 1000000) (disch := omega) only [WS, List.getElem_cons_zero, List.getElem_cons_succ, Option.isNone_some, Option.isNone_none, List.getD_cons_zero, List.getD_cons_succ, I.at, atL, atO, atP, evp, evs, retV, ↓reduceIte, Nat.reduceEqDiff, reduceCtorEq, AS]
  refine X_call0 ((culletlaw14_alike_spec w7 sx s1 _ _ ox hs (by omega) (by omega)).mono ?_)
  rintro _ w8 ⟨rfl, hk1⟩
  have hB := hk1.1
  have hs := hs.up hB
  have od := od.up hB
  have oc := oc.up hB
  have B := B.trans (hB.mono B.size)
  clear hB
  clear hk1
  simp only [decide_true]
  by_cases h1 : 1 < 2 ^ k
  · simp (maxSteps := 1000000) (disch := omega) only [WS, List.getElem_cons_zero, List.getElem_cons_succ, Option.isNone_some, Option.isNone_none, List.getD_cons_zero, List.getD_cons_succ, I.at, atL, atO, atP, evp, evs, retV, ↓reduceIte, Nat.reduceEqDiff, reduceCtorEq, AS, hs.Xlen, hL]
    exact B
  · obtain rfl : k = 0 := by
      cases k with
      | zero => rfl
      | succ k => have := Nat.two_pow_pos k; rw [Nat.pow_succ] at h1; omega
    have e3 : c = x := co_eq lc hL hc
    have e4 : d = x := co_eq ld hL hd
    subst e3
    subst e4
    simp (maxSteps := 1000000) (disch := omega) only [WS, List.getElem_cons_zero, List.getElem_cons_succ, Option.isNone_some, Option.isNone_none, List.getD_cons_zero, List.getD_cons_succ, I.at, atL, atO, atP, evp, evs, retV, ↓reduceIte, Nat.reduceEqDiff, reduceCtorEq, AS, hs.Xlen, hL]
    refine X_call0 ((culletlaw14_alike_spec w8 sc s1 _ _ oc hs (by omega) (by omega)).mono ?_)
    rintro _ w9 ⟨rfl, hk1⟩
    have hB := hk1.1
    have hs := hs.up hB
    have od := od.up hB
    have B := B.trans (hB.mono B.size)
    clear hB
    clear hk1
    simp only [decide_true]
    simp (maxSteps := 1000000) (disch := omega) only [WS, List.getElem_cons_zero, List.getElem_cons_succ, Option.isNone_some, Option.isNone_none, List.getD_cons_zero, List.getD_cons_succ, I.at, atL, atO, atP, evp, evs, retV, ↓reduceIte, Nat.reduceEqDiff, reduceCtorEq, AS]
    refine X_call0 ((culletlaw14_alike_spec w9 sd s1 _ _ od hs (by omega) (by omega)).mono ?_)
    rintro _ w10 ⟨rfl, hk1⟩
    have hB := hk1.1
    have B := B.trans (hB.mono B.size)
    clear hB
    simp only [decide_true]
    simp (maxSteps := 1000000) (disch := omega) only [WS, List.getElem_cons_zero, List.getElem_cons_succ, Option.isNone_some, Option.isNone_none, List.getD_cons_zero, List.getD_cons_succ, I.at, atL, atO, atP, evp, evs, retV, ↓reduceIte, Nat.reduceEqDiff, reduceCtorEq, AS]
    exact B
end Go.Proofs.Ytpmfeaajpjjfiaa.Fw
