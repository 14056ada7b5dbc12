import Derived.Test.YtpmfeaajpjjfiaaProg
import Derived.Test.YtpmfeaajpjjfiaaFwTF
import Derived.Test.YtpmfeaajpjjfiaaSS14pF
set_option linter.all false
set_option linter.unusedVariables false
set_option linter.unusedSimpArgs false
set_option maxRecDepth 100000
set_option maxHeartbeats 1000000
namespace Go.Proofs.Ytpmfeaajpjjfiaa.Fw
open Go Go.Fw Go.Proofs
attribute [local irreducible] stepI
def c_culletlaw14_AfftColumns : C := .seq (.ops [⟨0, (some 6), none, .mov (.c (.bool false)), []⟩]) (.seq (.seq (.ops [⟨0, (some 19), none, .call (.c (.func (.func 14) #[] #[])) [], []⟩, ⟨1, (some 20), none, .un .not (.t 19), []⟩]) (.ite (.t 20) (.seq (.ops [⟨0, (some 6), none, .mov (.c (.bool false)), []⟩]) .ret) .skip)) (.seq (.ops [⟨0, (some 21), none, .mov (.t 1), []⟩, ⟨1, (some 22), none, .bin .rem (.t 21) (.c (.int .i64 5)), []⟩, ⟨2, (some 23), none, .bin .add (.t 22) (.c (.int .i64 5)), []⟩, ⟨3, (some 24), none, .bin .rem (.t 23) (.c (.int .i64 5)), []⟩, ⟨4, (some 7), none, .mov (.t 24), []⟩]) (.seq (.seq (.ops [⟨0, (some 25), none, .mov (.t 7), []⟩, ⟨1, (some 26), none, .bin .eql (.t 25) (.c (.int .i64 0)), []⟩, ⟨2, (some 27), none, .mov (.t 26), []⟩, ⟨3, (some 28), (some (27, false)), .mov (.t 0), []⟩, ⟨4, (some 29), (some (27, false)), .len (.t 28), []⟩, ⟨5, (some 30), (some (27, false)), .mov (.t 7), []⟩, ⟨6, (some 31), (some (27, false)), .bin .lss (.t 29) (.t 30), []⟩, ⟨7, (some 32), none, .pick (.t 27) (.c (.bool true)) (.t 31), []⟩]) (.ite (.t 32) (.seq (.ops [⟨0, (some 6), none, .mov (.c (.bool true)), []⟩]) .ret) .skip)) (.seq (.ops [⟨0, (some 33), none, .mov (.t 0), []⟩, ⟨1, (some 34), none, .len (.t 33), []⟩, ⟨2, (some 35), none, .mov (.t 7), []⟩, ⟨3, (some 36), none, .bin .quo (.t 34) (.t 35), []⟩, ⟨4, (some 37), none, .mks 31 2 [.int .u16 0] (.t 36) (.t 36), []⟩, ⟨5, (some 38), none, .call (.c (.func (.func 15) #[] #[])) [.t 37, .c (.int .i64 256)], []⟩, ⟨6, (some 39), none, .len (.t 38), []⟩, ⟨7, (some 8), none, .mov (.t 39), []⟩]) (.seq (.ops [⟨0, (some 40), none, .mov (.t 2), []⟩, ⟨1, (some 41), none, .mov (.t 8), []⟩, ⟨2, (some 42), none, .call (.c (.func (.func 16) #[] #[])) [.t 40, .t 41], []⟩, ⟨3, (some 9), none, .mov (.t 42), []⟩]) (.seq (.ops [⟨0, (some 43), none, .mov (.t 8), []⟩, ⟨1, (some 44), none, .mks 23 24 [.slice none 0 0] (.t 43) (.t 43), []⟩, ⟨2, (some 10), none, .mov (.t 44), []⟩]) (.seq (.seq (.ops [⟨0, (some 11), none, .mov (.c (.int .i64 0)), []⟩]) (.block 0 (.loop (.seq (.seq (.ops [⟨0, (some 45), none, .mov (.t 11), []⟩, ⟨1, (some 46), none, .mov (.t 8), []⟩, ⟨2, (some 47), none, .bin .lss (.t 45) (.t 46), []⟩]) (.ite (.t 47) .skip (.exit 0))) (.seq (.block 1 (.ops [⟨0, (some 50), none, .mov (.t 10), []⟩, ⟨1, (some 51), none, .mov (.t 11), []⟩, ⟨2, (some 52), none, .bsl 31 0 [.int .u16 0] [], []⟩, ⟨3, (some 53), none, .mov (.t 0), []⟩, ⟨4, (some 54), none, .mov (.t 11), []⟩, ⟨5, (some 55), none, .mov (.t 7), []⟩, ⟨6, (some 56), none, .bin .mul (.t 54) (.t 55), []⟩, ⟨7, (some 57), none, .mov (.t 11), []⟩, ⟨8, (some 58), none, .mov (.t 7), []⟩, ⟨9, (some 59), none, .bin .mul (.t 57) (.t 58), []⟩, ⟨10, (some 60), none, .mov (.t 7), []⟩, ⟨11, (some 61), none, .bin .add (.t 59) (.t 60), []⟩, ⟨12, (some 62), none, .slc 1 (.t 53) (some (.t 56)) (some (.t 61)) none, []⟩, ⟨13, (some 63), none, .app 31 2 [.int .u16 0] (.t 52) (.t 62), []⟩, ⟨14, (some 64), none, .ixs 1 (.t 50) (.t 51), []⟩, ⟨15, none, none, .st (.t 64) (.t 63), []⟩])) (.ops [⟨0, (some 48), none, .mov (.t 11), []⟩, ⟨1, (some 49), none, .bin .add (.t 48) (.c (.int .i64 1)), []⟩, ⟨2, (some 11), none, .mov (.t 49), []⟩])))))) (.seq (.seq (.ops [⟨0, (some 65), none, .mov (.t 10), []⟩, ⟨1, (some 66), none, .mov (.t 9), []⟩, ⟨2, (some 67), none, .call (.c (.func (.func 24) #[] #[])) [.t 65, .t 66], []⟩, ⟨3, (some 68), none, .bin .neq (.t 67) (.c (.int .i64 0)), []⟩]) (.ite (.t 68) (.seq (.ops [⟨0, (some 6), none, .mov (.c (.bool false)), []⟩]) .ret) .skip)) (.seq (.seq (.ops [⟨0, (some 12), none, .mov (.c (.int .i64 0)), []⟩]) (.block 2 (.loop (.seq (.seq (.ops [⟨0, (some 69), none, .mov (.t 12), []⟩, ⟨1, (some 70), none, .mov (.t 7), []⟩, ⟨2, (some 71), none, .bin .lss (.t 69) (.t 70), []⟩]) (.ite (.t 71) .skip (.exit 2))) (.seq (.block 3 (.seq (.ops [⟨0, (some 74), none, .mov (.t 8), []⟩, ⟨1, (some 75), none, .mks 31 2 [.int .u16 0] (.t 74) (.t 74), []⟩, ⟨2, (some 13), none, .mov (.t 75), []⟩]) (.seq (.seq (.ops [⟨0, (some 14), none, .mov (.c (.int .i64 0)), []⟩]) (.block 4 (.loop (.seq (.seq (.ops [⟨0, (some 76), none, .mov (.t 14), []⟩, ⟨1, (some 77), none, .mov (.t 8), []⟩, ⟨2, (some 78), none, .bin .lss (.t 76) (.t 77), []⟩]) (.ite (.t 78) .skip (.exit 4))) (.seq (.block 5 (.ops [⟨0, (some 81), none, .mov (.t 13), []⟩, ⟨1, (some 82), none, .mov (.t 14), []⟩, ⟨2, (some 83), none, .mov (.t 0), []⟩, ⟨3, (some 84), none, .mov (.t 14), []⟩, ⟨4, (some 85), none, .mov (.t 7), []⟩, ⟨5, (some 86), none, .bin .mul (.t 84) (.t 85), []⟩, ⟨6, (some 87), none, .mov (.t 12), []⟩, ⟨7, (some 88), none, .bin .add (.t 86) (.t 87), []⟩, ⟨8, (some 89), none, .ixs 1 (.t 83) (.t 88), []⟩, ⟨9, (some 90), none, .ld (.t 89), []⟩, ⟨10, (some 91), none, .ixs 1 (.t 81) (.t 82), []⟩, ⟨11, none, none, .st (.t 91) (.t 90), []⟩])) (.ops [⟨0, (some 79), none, .mov (.t 14), []⟩, ⟨1, (some 80), none, .bin .add (.t 79) (.c (.int .i64 1)), []⟩, ⟨2, (some 14), none, .mov (.t 80), []⟩])))))) (.seq (.ops [⟨0, (some 93), none, .mov (.t 13), []⟩, ⟨1, (some 94), none, .mov (.t 9), []⟩, ⟨2, (some 95), none, .call (.c (.func (.func 18) #[] #[])) [.t 93, .t 94], []⟩, ⟨3, (some 92), none, .mov (.t 95), []⟩, ⟨4, (some 96), none, .ext (.t 92) 0, []⟩, ⟨5, (some 97), none, .ext (.t 92) 1, []⟩, ⟨6, (some 15), none, .mov (.t 96), []⟩, ⟨7, (some 16), none, .mov (.t 97), []⟩]) (.seq (.seq (.ops [⟨0, (some 98), none, .mov (.t 16), []⟩, ⟨1, (some 99), none, .bin .neq (.t 98) (.c (.int .i64 0)), []⟩, ⟨2, (some 100), none, .mov (.t 99), []⟩, ⟨3, (some 101), (some (100, false)), .mov (.t 15), []⟩, ⟨4, (some 102), (some (100, false)), .len (.t 101), []⟩, ⟨5, (some 103), (some (100, false)), .mov (.t 8), []⟩, ⟨6, (some 104), (some (100, false)), .bin .neq (.t 102) (.t 103), []⟩, ⟨7, (some 105), none, .pick (.t 100) (.c (.bool true)) (.t 104), []⟩]) (.ite (.t 105) (.seq (.ops [⟨0, (some 6), none, .mov (.c (.bool false)), []⟩]) .ret) .skip)) (.seq (.ops [⟨0, (some 17), none, .mov (.c (.int .i64 0)), []⟩]) (.block 6 (.loop (.seq (.seq (.ops [⟨0, (some 106), none, .mov (.t 17), []⟩, ⟨1, (some 107), none, .mov (.t 8), []⟩, ⟨2, (some 108), none, .bin .lss (.t 106) (.t 107), []⟩]) (.ite (.t 108) .skip (.exit 6))) (.seq (.block 7 (.seq (.dops [⟨0, (some 111), none, .mov (.t 10), []⟩, ⟨1, (some 112), none, .mov (.t 17), []⟩, ⟨2, (some 113), none, .ixs 1 (.t 111) (.t 112), []⟩, ⟨3, (some 114), none, .ld (.t 113), []⟩, ⟨4, (some 115), none, .len (.t 114), []⟩, ⟨5, (some 116), none, .mov (.t 7), []⟩, ⟨6, (some 117), none, .bin .neq (.t 115) (.t 116), []⟩, ⟨7, (some 118), none, .mov (.t 117), []⟩, ⟨8, (some 119), (some (118, false)), .mov (.t 10), []⟩, ⟨9, (some 120), (some (118, false)), .mov (.t 17), []⟩, ⟨10, (some 121), (some (118, false)), .ixs 1 (.t 119) (.t 120), []⟩, ⟨11, (some 122), (some (118, false)), .ld (.t 121), []⟩, ⟨12, (some 123), (some (118, false)), .mov (.t 12), []⟩, ⟨13, (some 124), (some (118, false)), .ixs 1 (.t 122) (.t 123), []⟩, ⟨14, (some 125), (some (118, false)), .ld (.t 124), []⟩, ⟨15, (some 126), (some (118, false)), .mov (.t 15), []⟩, ⟨16, (some 127), (some (118, false)), .mov (.t 17), []⟩, ⟨17, (some 128), (some (118, false)), .ixs 1 (.t 126) (.t 127), []⟩, ⟨18, (some 129), (some (118, false)), .ld (.t 128), []⟩, ⟨19, (some 130), (some (118, false)), .bin .neq (.t 125) (.t 129), []⟩, ⟨20, (some 131), none, .pick (.t 118) (.c (.bool true)) (.t 130), []⟩]) (.ite (.t 131) (.seq (.ops [⟨0, (some 6), none, .mov (.c (.bool false)), []⟩]) .ret) .skip))) (.ops [⟨0, (some 109), none, .mov (.t 17), []⟩, ⟨1, (some 110), none, .bin .add (.t 109) (.c (.int .i64 1)), []⟩, ⟨2, (some 17), none, .mov (.t 110), []⟩]))))))))))) (.ops [⟨0, (some 72), none, .mov (.t 12), []⟩, ⟨1, (some 73), none, .bin .add (.t 72) (.c (.int .i64 1)), []⟩, ⟨2, (some 12), none, .mov (.t 73), []⟩])))))) (.seq (.seq (.ops [⟨0, (some 132), none, .mov (.t 10), []⟩, ⟨1, (some 133), none, .mov (.t 9), []⟩, ⟨2, (some 134), none, .call (.c (.func (.func 25) #[] #[])) [.t 132, .t 133], []⟩, ⟨3, (some 135), none, .bin .neq (.t 134) (.c (.int .i64 0)), []⟩]) (.ite (.t 135) (.seq (.ops [⟨0, (some 6), none, .mov (.c (.bool false)), []⟩]) .ret) .skip)) (.seq (.seq (.ops [⟨0, (some 18), none, .mov (.c (.int .i64 0)), []⟩]) (.block 8 (.loop (.seq (.seq (.ops [⟨0, (some 136), none, .mov (.t 18), []⟩, ⟨1, (some 137), none, .mov (.t 8), []⟩, ⟨2, (some 138), none, .bin .lss (.t 136) (.t 137), []⟩]) (.ite (.t 138) .skip (.exit 8))) (.seq (.block 9 (.seq (.dops [⟨0, (some 141), none, .mov (.t 10), []⟩, ⟨1, (some 142), none, .mov (.t 18), []⟩, ⟨2, (some 143), none, .ixs 1 (.t 141) (.t 142), []⟩, ⟨3, (some 144), none, .ld (.t 143), []⟩, ⟨4, (some 145), none, .mov (.t 0), []⟩, ⟨5, (some 146), none, .mov (.t 18), []⟩, ⟨6, (some 147), none, .mov (.t 7), []⟩, ⟨7, (some 148), none, .bin .mul (.t 146) (.t 147), []⟩, ⟨8, (some 149), none, .mov (.t 18), []⟩, ⟨9, (some 150), none, .mov (.t 7), []⟩, ⟨10, (some 151), none, .bin .mul (.t 149) (.t 150), []⟩, ⟨11, (some 152), none, .mov (.t 7), []⟩, ⟨12, (some 153), none, .bin .add (.t 151) (.t 152), []⟩, ⟨13, (some 154), none, .slc 1 (.t 145) (some (.t 148)) (some (.t 153)) none, []⟩, ⟨14, (some 155), none, .call (.c (.func (.func 19) #[] #[])) [.t 144, .t 154], []⟩, ⟨15, (some 156), none, .un .not (.t 155), []⟩]) (.ite (.t 156) (.seq (.ops [⟨0, (some 6), none, .mov (.c (.bool false)), []⟩]) .ret) .skip))) (.ops [⟨0, (some 139), none, .mov (.t 18), []⟩, ⟨1, (some 140), none, .bin .add (.t 139) (.c (.int .i64 1)), []⟩, ⟨2, (some 18), none, .mov (.t 140), []⟩])))))) (.seq (.ops [⟨0, (some 6), none, .mov (.c (.bool true)), []⟩]) .ret))))))))))))
attribute [irreducible] c_culletlaw14_AfftColumns
theorem run_culletlaw14_AfftColumns {args : List Value} {w : World} {K : Value → World → Prop} (hn : args.length ≤ 157) (h : WP Try.prog c_culletlaw14_AfftColumns (endQ [.t 6] K) (initT args) w) : CallV Try.prog 8 args w K :=
  call_of follows Try.func8 (by kernel_rfl) (by kernel_rfl) hn h
end Go.Proofs.Ytpmfeaajpjjfiaa.Fw
namespace Go.Proofs.Ytpmfeaajpjjfiaa.Fw
open Go Go.Fw
theorem getD_setD {α : Type} (R : List α) {i : Nat} (h : i < R.length) (a d : α) (x : Nat) : (R.set i a).getD x d = if x = i then a else R.getD x d := by
  simp only [List.getD_eq_getElem?_getD, List.getElem?_set]
  by_cases hx : x = i
  · subst hx; rw [if_pos rfl, if_pos rfl, if_pos h]; rfl
  · rw [if_neg (fun e => hx e.symm), if_neg hx]
def hdn : Hd := ⟨none, 0, 0⟩
def piece (l : List (El 16)) (q j : Nat) : List (El 16) := (l.take (j * q + q)).drop (j * q)
theorem piece_len {l : List (El 16)} {q j n : Nat} (hn : n * q ≤ l.length) (hj : j < n) : (piece l q j).length = q ∧ j * q + q ≤ l.length := by
  have : j * q + q ≤ n * q := by rw [show j * q + q = (j + 1) * q by rw [Nat.add_mul, Nat.one_mul]]; exact Nat.mul_le_mul_right _ hj
  unfold piece
  rw [List.length_drop, List.length_take]; omega
theorem piece_co (l : List (El 16)) (q j c : Nat) (hc : c < q) : (co (piece l q j)).c c = (co l).c (j * q + c) := by
  unfold piece
  rw [co_drop, co_takeL, if_pos (by omega)]
theorem rowsR {l : List (El 16)} {q n : Nat} {i : Nat} (hi : i < n) : ((List.range n).map (piece l q)).getD i [] = piece l q i := by
  rw [List.getD_eq_getElem?_getD, List.getElem?_map, List.getElem?_range hi]; rfl
theorem culletlaw14_AfftColumns_spec (w : World) (s : Value) (l : List (El 16)) (cs a : Int) (h : Sl w s l) (hb : l.length ≤ 70368744175616) (hcs : -9223372036854775808 ≤ cs ∧ cs ≤ 9223372036854775807) (ha : -9223372036854775808 ≤ a ∧ a ≤ 9223372036854775807) :
    CallV Try.prog 8 [s, .int .i64 cs, .int .i64 a] w fun v w' => v = .bool true ∧ RowKit.Below w.heap.size w w' := by
  refine run_culletlaw14_AfftColumns (by simp) ?_
  simp only [c_culletlaw14_AfftColumns, WS, List.getElem_cons_zero, List.getElem_cons_succ, Option.isNone_some, Option.isNone_none, List.getD_cons_zero, List.getD_cons_succ, I.at, atL, atO, atP, evp, evs, retV, ↓reduceIte, Nat.reduceEqDiff, reduceCtorEq]
  refine X_call0 ((culletlaw14_awake_spec w).mono ?_)
  rintro _ w1 ⟨rfl, hB⟩
  have B := hB
  clear hB
  have h5 : ((5 : Int) ≠ 0) = True := eq_true (by decide)
  have hb1 := Int.natAbs_tmod cs 5
  have hb2 : cs.natAbs % (5 : Int).natAbs < 5 := Nat.mod_lt _ (by decide)
  rw [← hb1] at hb2
  generalize hr : cs.tmod 5 = r at *
  have e2 : IntKind.i64.wrap (r + 5) = r + 5 := wrap_id (by omega) (by omega)
  obtain ⟨z, hz⟩ : ∃ z : Nat, r + 5 = (z : Int) := ⟨(r + 5).toNat, by omega⟩
  have hq5 : z % 5 < 5 := Nat.mod_lt _ (by decide)
  have e3 : (z : Int).tmod 5 = ((z % 5 : Nat) : Int) := tmod_nat z 5
  generalize hq : z % 5 = q at *
  by_cases hq0 : q = 0
  · simp (maxSteps := 1000000) (disch := omega) only [WS, List.getElem_cons_zero, List.getElem_cons_succ, Option.isNone_some, Option.isNone_none, List.getD_cons_zero, List.getD_cons_succ, I.at, atL, atO, atP, evp, evs, retV, ↓reduceIte, Nat.reduceEqDiff, reduceCtorEq, AS, X_rem, h5, hr, e2, hz, w_nat, e3, (h.up B).Xlen]
    exact B
  by_cases hlq : l.length < q
  · simp (maxSteps := 1000000) (disch := omega) only [WS, List.getElem_cons_zero, List.getElem_cons_succ, Option.isNone_some, Option.isNone_none, List.getD_cons_zero, List.getD_cons_succ, I.at, atL, atO, atP, evp, evs, retV, ↓reduceIte, Nat.reduceEqDiff, reduceCtorEq, AS, X_rem, h5, hr, e2, hz, w_nat, e3, (h.up B).Xlen]
    exact B
  have hqz : ((q : Int) ≠ 0) = True := eq_true (by omega)
  have e4 : IntKind.i64.wrap ((l.length : Int).tdiv (q : Int)) = ((l.length / q : Nat) : Int) := by rw [tdiv_nat, wrap_64 _ (Nat.lt_of_le_of_lt (Nat.div_le_self _ _) (by omega))]
  have hm : l.length / q ≤ l.length := Nat.div_le_self _ _
  have hm1 : 1 ≤ l.length / q := (Nat.le_div_iff_mul_le (by omega)).2 (by omega)
  have hmq : l.length / q * q ≤ l.length := Nat.div_mul_le_self _ _
  generalize hMq : l.length / q = m at *
  simp (maxSteps := 1000000) (disch := omega) only [WS, List.getElem_cons_zero, List.getElem_cons_succ, Option.isNone_some, Option.isNone_none, List.getD_cons_zero, List.getD_cons_succ, I.at, atL, atO, atP, evp, evs, retV, ↓reduceIte, Nat.reduceEqDiff, reduceCtorEq, AS, X_rem, h5, hr, e2, hz, w_nat, e3, (h.up B).Xlen, X_quo, hqz, e4]
  refine X_mks (x := (0 : El 16)) (by simp only [maxBytes]; omega) (by omega) fun sz w2 oz hB => ?_
  have B := B.trans (hB.mono B.size)
  clear hB
  simp (maxSteps := 1000000) (disch := omega) only [WS, List.getElem_cons_zero, List.getElem_cons_succ, Option.isNone_some, Option.isNone_none, List.getD_cons_zero, List.getD_cons_succ, I.at, atL, atO, atP, evp, evs, retV, ↓reduceIte, Nat.reduceEqDiff, reduceCtorEq, AS]
  refine X_call0 ((cut_any (m := 256) oz.sl (by omega) (by omega)).mono ?_)
  rintro s1 w' ⟨rfl, n, hs, hn1, hn4, hnk⟩
  rw [List.length_replicate] at hn1
  have hL : ((List.replicate m (0 : El 16)).take n).length = n := by rw [List.length_take, List.length_replicate]; omega
  have hk' : ∃ k, k ≤ 16 ∧ n = 2 ^ k := by
    rcases hnk with h | h
    · have := h.2; rw [List.length_replicate] at this; omega
    · exact h
  obtain ⟨k, hk, hn⟩ := hk'
  have hp := Nat.two_pow_pos k
  have hnq : n * q ≤ l.length := Nat.le_trans (Nat.mul_le_mul_right q hn1) hmq
  clear hnk oz
  simp (maxSteps := 1000000) (disch := omega) only [WS, List.getElem_cons_zero, List.getElem_cons_succ, Option.isNone_some, Option.isNone_none, List.getD_cons_zero, List.getD_cons_succ, I.at, atL, atO, atP, evp, evs, retV, ↓reduceIte, Nat.reduceEqDiff, reduceCtorEq, AS, hs.Xlen, hL]
  rw [hn]
  refine X_call0 ((culletlaw14_begin_spec _ a k hk ha).mono ?_)
  rintro _ w3 ⟨rfl, p, rfl, hp1, hp2⟩
  have hP := isC_of hp1 hp2
  rw [← hn] at hp1 hp2 hP ⊢
  simp (maxSteps := 1000000) (disch := omega) only [WS, List.getElem_cons_zero, List.getElem_cons_succ, Option.isNone_some, Option.isNone_none, List.getD_cons_zero, List.getD_cons_succ, I.at, atL, atO, atP, evp, evs, retV, ↓reduceIte, Nat.reduceEqDiff, reduceCtorEq, AS]
  refine X_mks (x := hdn) (by simp only [maxBytes]; omega) (by omega) fun rows w4 or0 hB => ?_
  have or1 := or0.mono B.size
  clear or0
  have B := B.trans (hB.mono B.size)
  clear hB
  obtain ⟨rb, hrb, -⟩ := or1.sl.blk_lt (by intro e; have := congrArg List.length e; simp at this; omega)
  simp (maxSteps := 1000000) (disch := omega) only [WS, List.getElem_cons_zero, List.getElem_cons_succ, Option.isNone_some, Option.isNone_none, List.getD_cons_zero, List.getD_cons_succ, I.at, atL, atO, atP, evp, evs, retV, ↓reduceIte, Nat.reduceEqDiff, reduceCtorEq, AS]
  refine loop_of (fun t w' => t 0 = s ∧ t 7 = .int .i64 (q : Int) ∧ t 8 = .int .i64 (n : Int) ∧ t 9 = .int .i64 (p : Int) ∧ t 10 = rows ∧ RowKit.Below w.heap.size w w' ∧ ∃ (i : Nat) (hs : List Hd), t 11 = .int .i64 (i : Int) ∧ i ≤ n ∧ Ow w.heap.size w' rows hs ∧ hs.length = n ∧
      (∀ j, j < i → Ow w.heap.size w' (Cell.v (hs.getD j hdn)) (piece l q j) ∧ Fw.blk (Cell.v (hs.getD j hdn)) ≠ some rb) ∧ ∀ j1 j2, j1 < i → j2 < i → j1 ≠ j2 → ∀ b, Fw.blk (Cell.v (hs.getD j1 hdn)) = some b → Fw.blk (Cell.v (hs.getD j2 hdn)) ≠ some b)
    (fun t _ => n - (toI (t 11)).toNat) ⟨by simp only [WS, List.getElem_cons_zero, List.getElem_cons_succ, Option.isNone_some, Option.isNone_none, List.getD_cons_zero, List.getD_cons_succ, I.at, atL, atO, atP, evp, evs, retV, ↓reduceIte, Nat.reduceEqDiff, reduceCtorEq], by simp only [WS, List.getElem_cons_zero, List.getElem_cons_succ, Option.isNone_some, Option.isNone_none, List.getD_cons_zero, List.getD_cons_succ, I.at, atL, atO, atP, evp, evs, retV, ↓reduceIte, Nat.reduceEqDiff, reduceCtorEq], by simp only [WS, List.getElem_cons_zero, List.getElem_cons_succ, Option.isNone_some, Option.isNone_none, List.getD_cons_zero, List.getD_cons_succ, I.at, atL, atO, atP, evp, evs, retV, ↓reduceIte, Nat.reduceEqDiff, reduceCtorEq], by simp only [WS, List.getElem_cons_zero, List.getElem_cons_succ, Option.isNone_some, Option.isNone_none, List.getD_cons_zero, List.getD_cons_succ, I.at, atL, atO, atP, evp, evs, retV, ↓reduceIte, Nat.reduceEqDiff, reduceCtorEq], by simp only [WS, List.getElem_cons_zero, List.getElem_cons_succ, Option.isNone_some, Option.isNone_none, List.getD_cons_zero, List.getD_cons_succ, I.at, atL, atO, atP, evp, evs, retV, ↓reduceIte, Nat.reduceEqDiff, reduceCtorEq], B, 0, _, rfl, by omega, or1, by simp, fun j hj => by omega, fun j1 j2 hj => by omega⟩ ?_
  clear B or1 hs
  rintro t w5 ⟨t0, t7, t8, t9, t10, B, i, hs, t11, hi, orr, hhs, hrow, hpw⟩
  by_cases hil : i < n
  · obtain ⟨pl, hle⟩ := piece_len hnq hil
    have ihs : i < hs.length := by omega
    have w1 : IntKind.i64.wrap ((i : Int) * (q : Int)) = ((i * q : Nat) : Int) := w_mul _ _ (by omega)
    have w2 : IntKind.i64.wrap (((i * q : Nat) : Int) + (q : Int)) = ((i * q + q : Nat) : Int) := w_add _ _ (by omega)
    have hsub := (h.up B).sub (show i * q ≤ i * q + q by omega) hle
    have hxs := (h.up B).Xslc (k := .i64) (k' := .i64) (show i * q ≤ i * q + q by omega) hle Try.prog
    simp (maxSteps := 1000000) (disch := omega) only [WS, List.getElem_cons_zero, List.getElem_cons_succ, Option.isNone_some, Option.isNone_none, List.getD_cons_zero, List.getD_cons_succ, I.at, atL, atO, atP, evp, evs, retV, ↓reduceIte, Nat.reduceEqDiff, reduceCtorEq, AS, t0, t7, t8, t9, t10, t11]
    refine X_bsl (zs := ([] : List (El 16))) (by rfl) (by rfl) fun e0 w6 oe hB => ?_
    have ne0 : ∀ b, Fw.blk e0 = some b → w5.heap.size ≤ b := fun b hb => (oe.blk b hb).1
    have old : ∀ j, j < i → ∀ b, Fw.blk (Cell.v (hs.getD j hdn)) = some b → b < w5.heap.size := fun j hj b hb => ((hrow j hj).1.blk b hb).2
    have rlt : rb < w5.heap.size := (orr.blk rb hrb).2
    have oe := oe.mono B.size
    have hrow : ∀ j, j < i → Ow w.heap.size w6 (Cell.v (hs.getD j hdn)) (piece l q j) ∧ Fw.blk (Cell.v (hs.getD j hdn)) ≠ some rb := fun j hj => ⟨(hrow j hj).1.up hB, (hrow j hj).2⟩
    have s56 : w5.heap.size ≤ w6.heap.size := hB.size
    have orr := orr.up hB
    have hsub := hsub.up hB
    have B := B.trans (hB.mono B.size)
    clear hB
    simp (maxSteps := 1000000) (disch := omega) only [WS, List.getElem_cons_zero, List.getElem_cons_succ, Option.isNone_some, Option.isNone_none, List.getD_cons_zero, List.getD_cons_succ, I.at, atL, atO, atP, evp, evs, retV, ↓reduceIte, Nat.reduceEqDiff, reduceCtorEq, t0, t7, t8, t9, t10, t11, w1, w2, hxs]
    refine Ow.Xapp oe hsub B.size (by simp only [List.length_nil, maxBytes]; show 2 * (0 + (piece l q i).length) * 2 + 1024 * 2 ≤ _; omega) (by show 0 + (piece l q i).length < _; omega) fun e1 w7 oe1 hg near => ?_
    rw [List.nil_append] at oe1
    have oe1 : Ow w.heap.size w7 e1 (piece l q i) := oe1
    have ne1 : ∀ b, Fw.blk e1 = some b → w5.heap.size ≤ b := fun b hb => by
      rcases near with h | h
      · exact ne0 b (h ▸ hb)
      · exact Nat.le_trans s56 (h b hb)
    have nr0 : Fw.blk rows ≠ Fw.blk e0 := by rw [hrb]; intro e; have := ne0 rb e.symm; omega
    have hrow : ∀ j, j < i → Ow w.heap.size w7 (Cell.v (hs.getD j hdn)) (piece l q j) ∧ Fw.blk (Cell.v (hs.getD j hdn)) ≠ some rb := fun j hj => by
      obtain ⟨b, hb, -⟩ := (hrow j hj).1.sl.blk_lt (by intro e; have := (piece_len hnq (show j < n by omega)).1; rw [e] at this; simp at this; omega)
      refine ⟨(hrow j hj).1.grown hg (by rw [hb]; intro e; have := ne0 b e.symm; have := old j hj b hb; omega), (hrow j hj).2⟩
    have orr := orr.grown hg nr0
    have B := Below.app B B.size hg fun b hb => (oe.blk b hb).1
    clear hg oe nr0 near hsub hxs
    have hv1 : Cell.v (hd e1) = e1 := oe1.sl.hd.1
    simp (maxSteps := 1000000) (disch := omega) only [WS, List.getElem_cons_zero, List.getElem_cons_succ, Option.isNone_some, Option.isNone_none, List.getD_cons_zero, List.getD_cons_succ, I.at, atL, atO, atP, evp, evs, retV, ↓reduceIte, Nat.reduceEqDiff, reduceCtorEq, AS, t0, t7, t8, t9, t10, t11, orr.sl.Xix ihs]
    rw [← hv1]
    refine Ow.Xst orr ihs (hd e1) fun w8 orr8 hg => ?_
    have nb1 : Fw.blk e1 ≠ Fw.blk rows := by rw [hrb]; intro e; have := ne1 rb e; omega
    have oe1 := oe1.grown hg nb1
    have B := B.grown hg B.size fun b hb => (orr.blk b hb).1
    simp (maxSteps := 1000000) (disch := omega) only [WS, List.getElem_cons_zero, List.getElem_cons_succ, Option.isNone_some, Option.isNone_none, List.getD_cons_zero, List.getD_cons_succ, I.at, atL, atO, atP, evp, evs, retV, ↓reduceIte, Nat.reduceEqDiff, reduceCtorEq, AS, t0, t7, t8, t9, t10, t11]
    refine ⟨⟨B, i + 1, _, rfl, by omega, orr8, by simp [hhs], fun j hj => ?_, fun j1 j2 h1 h2 h12 b hb1 hb2 => ?_⟩, by omega⟩
    · rw [getD_setD hs ihs]
      by_cases hji : j = i
      · subst hji
        rw [if_pos rfl, hv1]
        exact ⟨oe1, fun e => nb1 (by rw [e, hrb])⟩
      · rw [if_neg hji]
        have := hrow j (by omega)
        exact ⟨this.1.grown hg (by rw [hrb]; exact this.2), this.2⟩
    · rw [getD_setD hs ihs] at hb1 hb2
      by_cases g1 : j1 = i
      · rw [if_pos g1, hv1] at hb1
        rw [if_neg (by omega)] at hb2
        have := ne1 b hb1
        have := old j2 (by omega) b hb2
        omega
      · rw [if_neg g1] at hb1
        by_cases g2 : j2 = i
        · rw [if_pos g2, hv1] at hb2
          have := ne1 b hb2
          have := old j1 (by omega) b hb1
          omega
        · rw [if_neg g2] at hb2
          exact hpw j1 j2 (by omega) (by omega) h12 b hb1 hb2
  obtain rfl : i = n := by omega
  have hgD : ∀ j (hj : j < hs.length), hs[j] = hs.getD j hdn := fun j hj => by rw [List.getD_eq_getElem?_getD, List.getElem?_eq_getElem hj]; rfl
  have hap : Apart rows hs := ⟨fun j1 j2 h1 h2 b h12 hb1 hb2 => by rw [hgD] at hb1 hb2; exact hpw j1 j2 (by omega) (by omega) h12 b hb1 hb2, fun j hj b hb1 hb2 => by
    rw [hgD] at hb1; rw [hrb] at hb2; cases hb2; exact (hrow j (by omega)).2 hb1⟩
  have hRR : Rown w.heap.size w rows hs ((List.range i).map (piece l q)) w5 := ⟨by simp [hhs], fun j hj => by rw [hgD, rowsR (by omega)]; exact (hrow j (by omega)).1, orr.sl, B, B.size⟩
  clear hrow hpw orr B hgD
  simp (maxSteps := 1000000) (disch := omega) only [WS, List.getElem_cons_zero, List.getElem_cons_succ, Option.isNone_some, Option.isNone_none, List.getD_cons_zero, List.getD_cons_succ, I.at, atL, atO, atP, evp, evs, retV, ↓reduceIte, Nat.reduceEqDiff, reduceCtorEq, AS, t0, t7, t8, t9, t10, t11]
  refine X_call0 ((afft_ForwardRows_spec (M := Rown w.heap.size w rows hs) w5 rows hs _ (p : Int) (Rown.rws hap) hRR (by omega) (fun j hj => by rw [rowsR (by omega), (piece_len hnq (show j < i by omega)).1]; omega)).mono ?_)
  rw [hhs, hn]
  rintro _ w6 (⟨k', q', hk', hlk', -, hq', rfl, R', hM', hRl, hql, hit⟩ | ⟨rfl, ⟨hbad, -⟩ | ⟨-, hbad, -⟩ | ⟨-, -, hbad, -⟩⟩)
  rotate_left
  · rw [(isP_iff _).2 ⟨k, hk, rfl⟩] at hbad; cases hbad
  · exact absurd ⟨q, fun j hj => by rw [rowsR (by omega), (piece_len hnq (show j < i by omega)).1]⟩ hbad
  · rw [← hn, hP] at hbad; cases hbad
  obtain rfl : k' = k := pow2_inj hlk'.symm
  obtain rfl : q' = q := by rw [← hq' 0 (by omega), rowsR (by omega), (piece_len hnq (show 0 < i by omega)).1]
  rw [Int.toNat_natCast] at hit
  rw [← hn] at hql hit ⊢
  have hcol : ∀ c j, c < q' → j < i → colf ((List.range i).map (piece l q')) c j = (co l).c (j * q' + c) := fun c j hc hj => by
    unfold colf
    rw [rowsR hj, piece_co _ _ _ _ hc]
  clear hRR hq'
  simp (maxSteps := 1000000) (disch := omega) only [WS, List.getElem_cons_zero, List.getElem_cons_succ, Option.isNone_some, Option.isNone_none, List.getD_cons_zero, List.getD_cons_succ, I.at, atL, atO, atP, evp, evs, retV, ↓reduceIte, Nat.reduceEqDiff, reduceCtorEq, AS, t0, t7, t8, t9, t10]
  refine loop_of (fun t w' => t 0 = s ∧ t 7 = .int .i64 (q' : Int) ∧ t 8 = .int .i64 (i : Int) ∧ t 9 = .int .i64 (p : Int) ∧ t 10 = rows ∧ Rown w.heap.size w rows hs R' w' ∧ ∃ c : Nat, t 12 = .int .i64 (c : Int) ∧ c ≤ q') (fun t _ => q' - (toI (t 12)).toNat)
    ⟨by simp only [WS, List.getElem_cons_zero, List.getElem_cons_succ, Option.isNone_some, Option.isNone_none, List.getD_cons_zero, List.getD_cons_succ, I.at, atL, atO, atP, evp, evs, retV, ↓reduceIte, Nat.reduceEqDiff, reduceCtorEq]; exact t0, by simp only [WS, List.getElem_cons_zero, List.getElem_cons_succ, Option.isNone_some, Option.isNone_none, List.getD_cons_zero, List.getD_cons_succ, I.at, atL, atO, atP, evp, evs, retV, ↓reduceIte, Nat.reduceEqDiff, reduceCtorEq]; exact t7, by simp only [WS, List.getElem_cons_zero, List.getElem_cons_succ, Option.isNone_some, Option.isNone_none, List.getD_cons_zero, List.getD_cons_succ, I.at, atL, atO, atP, evp, evs, retV, ↓reduceIte, Nat.reduceEqDiff, reduceCtorEq]; exact t8, by simp only [WS, List.getElem_cons_zero, List.getElem_cons_succ, Option.isNone_some, Option.isNone_none, List.getD_cons_zero, List.getD_cons_succ, I.at, atL, atO, atP, evp, evs, retV, ↓reduceIte, Nat.reduceEqDiff, reduceCtorEq]; exact t9, by simp only [WS, List.getElem_cons_zero, List.getElem_cons_succ, Option.isNone_some, Option.isNone_none, List.getD_cons_zero, List.getD_cons_succ, I.at, atL, atO, atP, evp, evs, retV, ↓reduceIte, Nat.reduceEqDiff, reduceCtorEq]; exact t10, hM', 0, rfl, by omega⟩ ?_
  clear t0 t7 t8 t9 t10 t11 hM'
  rintro t w7 ⟨t0, t7, t8, t9, t10, hM, c, t12, hc⟩
  by_cases hcq : c < q'
  · simp (maxSteps := 1000000) (disch := omega) only [WS, List.getElem_cons_zero, List.getElem_cons_succ, Option.isNone_some, Option.isNone_none, List.getD_cons_zero, List.getD_cons_succ, I.at, atL, atO, atP, evp, evs, retV, ↓reduceIte, Nat.reduceEqDiff, reduceCtorEq, AS, t0, t7, t8, t9, t10, t12]
    refine X_mks (x := (0 : El 16)) (by simp only [maxBytes]; omega) (by omega) fun sl w8 ol hB => ?_
    have s7 := hM.2.2.2.2
    simp (maxSteps := 1000000) (disch := omega) only [WS, List.getElem_cons_zero, List.getElem_cons_succ, Option.isNone_some, Option.isNone_none, List.getD_cons_zero, List.getD_cons_succ, I.at, atL, atO, atP, evp, evs, retV, ↓reduceIte, Nat.reduceEqDiff, reduceCtorEq, AS]
    refine loop_of (fun t w' => t 0 = s ∧ t 7 = .int .i64 (q' : Int) ∧ t 8 = .int .i64 (i : Int) ∧ t 9 = .int .i64 (p : Int) ∧ t 10 = rows ∧ t 12 = .int .i64 (c : Int) ∧ t 13 = sl ∧ RowKit.Below w7.heap.size w7 w' ∧ ∃ (x : Nat) (L : List (El 16)), t 14 = .int .i64 (x : Int) ∧ x ≤ i ∧ Ow w7.heap.size w' sl L ∧ L.length = i ∧ ∀ y, y < x → (co L).c y = (co l).c (y * q' + c)) (fun t _ => i - (toI (t 14)).toNat)
      ⟨by simp only [WS, List.getElem_cons_zero, List.getElem_cons_succ, Option.isNone_some, Option.isNone_none, List.getD_cons_zero, List.getD_cons_succ, I.at, atL, atO, atP, evp, evs, retV, ↓reduceIte, Nat.reduceEqDiff, reduceCtorEq]; exact t0, by simp only [WS, List.getElem_cons_zero, List.getElem_cons_succ, Option.isNone_some, Option.isNone_none, List.getD_cons_zero, List.getD_cons_succ, I.at, atL, atO, atP, evp, evs, retV, ↓reduceIte, Nat.reduceEqDiff, reduceCtorEq]; exact t7, by simp only [WS, List.getElem_cons_zero, List.getElem_cons_succ, Option.isNone_some, Option.isNone_none, List.getD_cons_zero, List.getD_cons_succ, I.at, atL, atO, atP, evp, evs, retV, ↓reduceIte, Nat.reduceEqDiff, reduceCtorEq]; exact t8, by simp only [WS, List.getElem_cons_zero, List.getElem_cons_succ, Option.isNone_some, Option.isNone_none, List.getD_cons_zero, List.getD_cons_succ, I.at, atL, atO, atP, evp, evs, retV, ↓reduceIte, Nat.reduceEqDiff, reduceCtorEq]; exact t9, by simp only [WS, List.getElem_cons_zero, List.getElem_cons_succ, Option.isNone_some, Option.isNone_none, List.getD_cons_zero, List.getD_cons_succ, I.at, atL, atO, atP, evp, evs, retV, ↓reduceIte, Nat.reduceEqDiff, reduceCtorEq]; exact t10, by simp only [WS, List.getElem_cons_zero, List.getElem_cons_succ, Option.isNone_some, Option.isNone_none, List.getD_cons_zero, List.getD_cons_succ, I.at, atL, atO, atP, evp, evs, retV, ↓reduceIte, Nat.reduceEqDiff, reduceCtorEq]; exact t12, by simp only [WS, List.getElem_cons_zero, List.getElem_cons_succ, Option.isNone_some, Option.isNone_none, List.getD_cons_zero, List.getD_cons_succ, I.at, atL, atO, atP, evp, evs, retV, ↓reduceIte, Nat.reduceEqDiff, reduceCtorEq], hB, 0, _, rfl, by omega, ol, by simp, fun y hy => by omega⟩ ?_
    clear t0 t7 t8 t9 t10 t12 ol hB
    rintro t w9 ⟨t0, t7, t8, t9, t10, t12, t13, hB, x, L, t14, hx, ol, hLl, hLc⟩
    have B9 : RowKit.Below w.heap.size w w9 := hM.2.2.2.1.trans (hB.mono s7)
    by_cases hxi : x < i
    · have hle := (piece_len hnq hxi).2
      have w1 : IntKind.i64.wrap ((x : Int) * (q' : Int)) = ((x * q' : Nat) : Int) := w_mul _ _ (by omega)
      have w2 : IntKind.i64.wrap (((x * q' : Nat) : Int) + (c : Int)) = ((x * q' + c : Nat) : Int) := w_add _ _ (by omega)
      have ixl : x * q' + c < l.length := by omega
      have iL : x < L.length := by omega
      simp (maxSteps := 1000000) (disch := omega) only [WS, List.getElem_cons_zero, List.getElem_cons_succ, Option.isNone_some, Option.isNone_none, List.getD_cons_zero, List.getD_cons_succ, I.at, atL, atO, atP, evp, evs, retV, ↓reduceIte, Nat.reduceEqDiff, reduceCtorEq, decide_eq_true, t0, t7, t8, t9, t10, t12, t13, t14, w1, w2, (h.up B9).Xix ixl, (h.up B9).Xld ixl, ol.sl.Xix iL]
      refine Ow.Xst ol iL l[x * q' + c] fun w10 ol hg => ?_
      simp (maxSteps := 1000000) (disch := omega) only [WS, List.getElem_cons_zero, List.getElem_cons_succ, Option.isNone_some, Option.isNone_none, List.getD_cons_zero, List.getD_cons_succ, I.at, atL, atO, atP, evp, evs, retV, ↓reduceIte, Nat.reduceEqDiff, reduceCtorEq, AS, t0, t7, t8, t9, t10, t12, t13, t14]
      refine ⟨⟨hB.grown hg hB.size fun b hb => (ol.blk b hb).1, x + 1, _, rfl, by omega, ol, by simp [hLl], fun y hy => ?_⟩, by omega⟩
      rw [co_set _ iL]
      by_cases hyx : y = x
      · subst hyx; rw [if_pos rfl, co_get l ixl]
      · rw [if_neg hyx]; exact hLc y (by omega)
    obtain rfl : x = i := by omega
    simp (maxSteps := 1000000) (disch := omega) only [WS, List.getElem_cons_zero, List.getElem_cons_succ, Option.isNone_some, Option.isNone_none, List.getD_cons_zero, List.getD_cons_succ, I.at, atL, atO, atP, evp, evs, retV, ↓reduceIte, Nat.reduceEqDiff, reduceCtorEq, AS, t0, t7, t8, t9, t10, t12, t13, t14]
    refine X_call0 ((fwd_any ol.sl (by rw [hLl, hn]) hk (hn ▸ hP)).mono ?_)
    rintro _ w10 ⟨sw, W, rfl, oW, lW, hW, hB10⟩
    rw [← hn] at lW hW
    have oW := oW.sl
    have hB := hB.trans (hB10.mono hB.size)
    have hM10 := (Rown.rws hap).up _ _ _ hM hB
    have hWv : ∀ y, y < x → (co W).c y = colf R' c y := fun y hy => by
      rw [hW y hy, hit y c hy]
      exact itF_loc (n := x) (by rw [hn, Nat.mod_self]) (fun j hj => by rw [hLc j hj, hcol c j hcq hj]) y hy
    clear hB10 ol hB B9 hLc hW
    simp (maxSteps := 1000000) (disch := omega) only [WS, List.getElem_cons_zero, List.getElem_cons_succ, Option.isNone_some, Option.isNone_none, List.getD_cons_zero, List.getD_cons_succ, I.at, atL, atO, atP, evp, evs, retV, ↓reduceIte, Nat.reduceEqDiff, reduceCtorEq, AS, t0, t7, t8, t9, t10, t12, t13, oW.Xlen, lW, show decide ((x : Int) = (x : Int)) = true from decide_eq_true rfl]
    refine loop_of (fun t w' => t 0 = s ∧ t 7 = .int .i64 (q' : Int) ∧ t 8 = .int .i64 (x : Int) ∧ t 9 = .int .i64 (p : Int) ∧ t 10 = rows ∧ t 12 = .int .i64 (c : Int) ∧ t 15 = sw ∧ Rown w.heap.size w rows hs R' w' ∧ Sl w' sw W ∧ ∃ y : Nat, t 17 = .int .i64 (y : Int) ∧ y ≤ x) (fun t _ => x - (toI (t 17)).toNat)
      ⟨by simp only [WS, List.getElem_cons_zero, List.getElem_cons_succ, Option.isNone_some, Option.isNone_none, List.getD_cons_zero, List.getD_cons_succ, I.at, atL, atO, atP, evp, evs, retV, ↓reduceIte, Nat.reduceEqDiff, reduceCtorEq]; exact t0, by simp only [WS, List.getElem_cons_zero, List.getElem_cons_succ, Option.isNone_some, Option.isNone_none, List.getD_cons_zero, List.getD_cons_succ, I.at, atL, atO, atP, evp, evs, retV, ↓reduceIte, Nat.reduceEqDiff, reduceCtorEq]; exact t7, by simp only [WS, List.getElem_cons_zero, List.getElem_cons_succ, Option.isNone_some, Option.isNone_none, List.getD_cons_zero, List.getD_cons_succ, I.at, atL, atO, atP, evp, evs, retV, ↓reduceIte, Nat.reduceEqDiff, reduceCtorEq]; exact t8, by simp only [WS, List.getElem_cons_zero, List.getElem_cons_succ, Option.isNone_some, Option.isNone_none, List.getD_cons_zero, List.getD_cons_succ, I.at, atL, atO, atP, evp, evs, retV, ↓reduceIte, Nat.reduceEqDiff, reduceCtorEq]; exact t9, by simp only [WS, List.getElem_cons_zero, List.getElem_cons_succ, Option.isNone_some, Option.isNone_none, List.getD_cons_zero, List.getD_cons_succ, I.at, atL, atO, atP, evp, evs, retV, ↓reduceIte, Nat.reduceEqDiff, reduceCtorEq]; exact t10, by simp only [WS, List.getElem_cons_zero, List.getElem_cons_succ, Option.isNone_some, Option.isNone_none, List.getD_cons_zero, List.getD_cons_succ, I.at, atL, atO, atP, evp, evs, retV, ↓reduceIte, Nat.reduceEqDiff, reduceCtorEq]; exact t12, by simp only [WS, List.getElem_cons_zero, List.getElem_cons_succ, Option.isNone_some, Option.isNone_none, List.getD_cons_zero, List.getD_cons_succ, I.at, atL, atO, atP, evp, evs, retV, ↓reduceIte, Nat.reduceEqDiff, reduceCtorEq], hM10, oW, 0, rfl, by omega⟩ ?_
    clear t0 t7 t8 t9 t10 t12 t13 t14 hM10 oW hM
    rintro t w11 ⟨t0, t7, t8, t9, t10, t12, t15, hM, oW, y, t17, hy⟩
    by_cases hyx : y < x
    · have iy : y < hs.length := by omega
      have iW : y < W.length := by omega
      have hMd := (Rown.rws hap).up _ _ _ hM (bel_drew w11)
      have hr := hMd.2.2.1
      have hri := (hMd.2.1 y iy).sl
      have lri := hql y hyx
      have ic : c < (R'.getD y []).length := by omega
      have oWd := oW.drew
      have hval : (R'.getD y [])[c] = W[y] := by rw [← co_get _ ic, ← co_get W iW, hWv y hyx]; rfl
      simp (maxSteps := 1000000) (disch := omega) only [WS, List.getElem_cons_zero, List.getElem_cons_succ, Option.isNone_some, Option.isNone_none, List.getD_cons_zero, List.getD_cons_succ, I.at, atL, atO, atP, evp, evs, retV, ↓reduceIte, Nat.reduceEqDiff, reduceCtorEq, AS, t0, t7, t8, t9, t10, t12, t15, t17]
      refine WP_dops ?_
      simp (maxSteps := 1000000) (disch := omega) only [ES, List.mem_cons, List.not_mem_nil, implies_true, forall_const, WS, List.getElem_cons_zero, List.getElem_cons_succ, Option.isNone_some, Option.isNone_none, List.getD_cons_zero, List.getD_cons_succ, I.at, atL, atO, atP, evp, evs, retV, ↓reduceIte, Nat.reduceEqDiff, reduceCtorEq, AS, t0, t7, t8, t9, t10, t12, t15, t17, hr.Eix iy, hr.Eld iy, hri.Elen, lri, show decide ((q' : Int) = (q' : Int)) = true from decide_eq_true rfl, hri.Eix ic, hri.Eld ic, oWd.Eix iW, oWd.Eld iW, cell_e16, hval, show decide ((W[y].v.toNat : Int) = (W[y].v.toNat : Int)) = true from decide_eq_true rfl]
      refine ⟨⟨hMd, oWd, y + 1, rfl, by omega⟩, by omega⟩
    · simp (maxSteps := 1000000) (disch := omega) only [WS, List.getElem_cons_zero, List.getElem_cons_succ, Option.isNone_some, Option.isNone_none, List.getD_cons_zero, List.getD_cons_succ, I.at, atL, atO, atP, evp, evs, retV, ↓reduceIte, Nat.reduceEqDiff, reduceCtorEq, AS, t0, t7, t8, t9, t10, t12, t15, t17]
      refine ⟨⟨hM, c + 1, rfl, by omega⟩, by omega⟩
  · obtain rfl : c = q' := by omega
    simp (maxSteps := 1000000) (disch := omega) only [WS, List.getElem_cons_zero, List.getElem_cons_succ, Option.isNone_some, Option.isNone_none, List.getD_cons_zero, List.getD_cons_succ, I.at, atL, atO, atP, evp, evs, retV, ↓reduceIte, Nat.reduceEqDiff, reduceCtorEq, AS, t0, t7, t8, t9, t10, t12]
    refine X_call0 ((afft_InverseRows_spec (M := Rown w.heap.size w rows hs) w7 rows hs R' (p : Int) (Rown.rws hap) hM (by omega) (fun j hj => by rw [hql j (by omega)]; omega)).mono ?_)
    rw [hhs, hn]
    rintro _ w8 (⟨k2, q2, hk2, hlk2, -, hq2, rfl, R2, hM2, hRl2, hql2, hit2⟩ | ⟨rfl, ⟨hbad, -⟩ | ⟨-, hbad, -⟩ | ⟨-, -, hbad, -⟩⟩)
    rotate_left
    · rw [(isP_iff _).2 ⟨k', hk, rfl⟩] at hbad; cases hbad
    · exact absurd ⟨c, fun j hj => hql j (by omega)⟩ hbad
    · rw [← hn, hP] at hbad; cases hbad
    obtain rfl : k2 = k' := pow2_inj hlk2.symm
    obtain rfl : q2 = c := by rw [← hq2 0 (by omega), hql 0 (by omega)]
    rw [Int.toNat_natCast] at hit2
    rw [← hn] at hql2 hit2
    have hback : ∀ y, y < i → R2.getD y [] = piece l q2 y := fun y hy => co_ext (by rw [hql2 y hy, (piece_len hnq hy).1]) (Ps.ext fun d => by
      have e1 : colf R2 d y = colf ((List.range i).map (piece l q2)) d y := by
        rw [hit2 y d hy, itI_loc (n := i) (by rw [hn, Nat.mod_self]) (fun j hj => hit j d hj) y hy, itI_itF]
      unfold colf at e1
      rw [rowsR hy] at e1
      exact e1)
    simp (maxSteps := 1000000) (disch := omega) only [WS, List.getElem_cons_zero, List.getElem_cons_succ, Option.isNone_some, Option.isNone_none, List.getD_cons_zero, List.getD_cons_succ, I.at, atL, atO, atP, evp, evs, retV, ↓reduceIte, Nat.reduceEqDiff, reduceCtorEq, AS, t0, t7, t8, t9, t10]
    refine loop_of (fun t w' => t 0 = s ∧ t 7 = .int .i64 (q2 : Int) ∧ t 8 = .int .i64 (i : Int) ∧ t 10 = rows ∧ Rown w.heap.size w rows hs R2 w' ∧ ∃ y : Nat, t 18 = .int .i64 (y : Int) ∧ y ≤ i) (fun t _ => i - (toI (t 18)).toNat)
      ⟨by simp only [WS, List.getElem_cons_zero, List.getElem_cons_succ, Option.isNone_some, Option.isNone_none, List.getD_cons_zero, List.getD_cons_succ, I.at, atL, atO, atP, evp, evs, retV, ↓reduceIte, Nat.reduceEqDiff, reduceCtorEq]; exact t0, by simp only [WS, List.getElem_cons_zero, List.getElem_cons_succ, Option.isNone_some, Option.isNone_none, List.getD_cons_zero, List.getD_cons_succ, I.at, atL, atO, atP, evp, evs, retV, ↓reduceIte, Nat.reduceEqDiff, reduceCtorEq]; exact t7, by simp only [WS, List.getElem_cons_zero, List.getElem_cons_succ, Option.isNone_some, Option.isNone_none, List.getD_cons_zero, List.getD_cons_succ, I.at, atL, atO, atP, evp, evs, retV, ↓reduceIte, Nat.reduceEqDiff, reduceCtorEq]; exact t8, by simp only [WS, List.getElem_cons_zero, List.getElem_cons_succ, Option.isNone_some, Option.isNone_none, List.getD_cons_zero, List.getD_cons_succ, I.at, atL, atO, atP, evp, evs, retV, ↓reduceIte, Nat.reduceEqDiff, reduceCtorEq]; exact t10, hM2, 0, rfl, by omega⟩ ?_
    clear t0 t7 t8 t9 t10 t12 hM2 hM
    rintro t w9 ⟨t0, t7, t8, t10, hM, y, t18, hy⟩
    by_cases hyx : y < i
    · have iy : y < hs.length := by omega
      obtain ⟨pl, hle⟩ := piece_len hnq hyx
      have hMd := (Rown.rws hap).up _ _ _ hM (bel_drew w9)
      have hr := hMd.2.2.1
      have hri := (hMd.2.1 y iy).sl
      rw [hback y hyx] at hri
      have w1 : IntKind.i64.wrap ((y : Int) * (q2 : Int)) = ((y * q2 : Nat) : Int) := w_mul _ _ (by omega)
      have w2 : IntKind.i64.wrap (((y * q2 : Nat) : Int) + (q2 : Int)) = ((y * q2 + q2 : Nat) : Int) := w_add _ _ (by omega)
      have hsub := (h.up hMd.2.2.2.1).sub (show y * q2 ≤ y * q2 + q2 by omega) hle
      have hxs := fun (n_ : Nat) (u_ : List Nat) (rs_ : List RN) (es_ : List EN) => (h.up hMd.2.2.2.1).Eslc (n_ := n_) (u_ := u_) (rs_ := rs_) (es_ := es_) (k := .i64) (k' := .i64) (show y * q2 ≤ y * q2 + q2 by omega) hle Try.prog
      simp (maxSteps := 1000000) (disch := omega) only [WS, List.getElem_cons_zero, List.getElem_cons_succ, Option.isNone_some, Option.isNone_none, List.getD_cons_zero, List.getD_cons_succ, I.at, atL, atO, atP, evp, evs, retV, ↓reduceIte, Nat.reduceEqDiff, reduceCtorEq, AS, t0, t7, t8, t10, t18]
      refine WP_dops ?_
      simp (maxSteps := 1000000) (disch := omega) only [ES, List.mem_cons, List.not_mem_nil, implies_true, forall_const, WS, List.getElem_cons_zero, List.getElem_cons_succ, Option.isNone_some, Option.isNone_none, List.getD_cons_zero, List.getD_cons_succ, I.at, atL, atO, atP, evp, evs, retV, ↓reduceIte, Nat.reduceEqDiff, reduceCtorEq, t0, t7, t8, t10, t18, hr.Eix iy, hr.Eld iy, w1, w2, hxs]
      refine E_call0 ((culletlaw14_alike_spec _ _ _ _ _ hri hsub (by omega) (by show (piece l q2 y).length ≤ _; omega)).mono ?_)
      rintro _ w10 ⟨rfl, hk1⟩
      have hM10 := (Rown.rws hap).up _ _ _ hMd hk1.1
      have hsee := hM10.2.2.1.sees iy Try.prog
      rw [show decide (piece l q2 y = (l.take (y * q2 + q2)).drop (y * q2)) = true from decide_eq_true rfl]
      simp (maxSteps := 1000000) (disch := omega) only [ES, List.mem_cons, List.not_mem_nil, implies_true, forall_const, WS, List.getElem_cons_zero, List.getElem_cons_succ, Option.isNone_some, Option.isNone_none, List.getD_cons_zero, List.getD_cons_succ, I.at, atL, atO, atP, evp, evs, retV, ↓reduceIte, Nat.reduceEqDiff, reduceCtorEq, AS, t0, t7, t8, t10, t18, hsee]
      refine ⟨⟨hM10, y + 1, rfl, by omega⟩, by omega⟩
    · simp (maxSteps := 1000000) (disch := omega) only [WS, List.getElem_cons_zero, List.getElem_cons_succ, Option.isNone_some, Option.isNone_none, List.getD_cons_zero, List.getD_cons_succ, I.at, atL, atO, atP, evp, evs, retV, ↓reduceIte, Nat.reduceEqDiff, reduceCtorEq, AS, t0, t7, t8, t10, t18]
      exact hM.2.2.2.1
end Go.Proofs.Ytpmfeaajpjjfiaa.Fw
