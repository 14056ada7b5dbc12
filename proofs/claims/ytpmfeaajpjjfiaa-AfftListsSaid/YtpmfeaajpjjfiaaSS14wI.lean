import Derived.Test.YtpmfeaajpjjfiaaProg
import Derived.Test.YtpmfeaajpjjfiaaFwTI
import Derived.Test.YtpmfeaajpjjfiaaSS14nI
import Derived.Test.YtpmfeaajpjjfiaaFwYI
set_option linter.all false
set_option linter.unusedVariables false
set_option linter.unusedSimpArgs false
set_option maxRecDepth 100000
set_option maxHeartbeats 1000000
namespace Go.Proofs.Ytpmfeaajpjjfiaa.Fw
open Go Go.Fw Go.Proofs
attribute [local irreducible] stepI
def c_culletlaw14_apart : C := .seq (.ops [⟨0, (some 2), none, .mov (.c (.bool false)), []⟩]) (.seq (.seq (.ops [⟨0, (some 3), none, .mov (.c (.int .i64 0)), []⟩]) (.block 0 (.loop (.seq (.seq (.ops [⟨0, (some 12), none, .mov (.t 3), []⟩, ⟨1, (some 13), none, .mov (.t 0), []⟩, ⟨2, (some 14), none, .len (.t 13), []⟩, ⟨3, (some 15), none, .bin .lss (.t 12) (.t 14), []⟩]) (.ite (.t 15) .skip (.exit 0))) (.seq (.block 1 (.seq (.ops [⟨0, (some 4), none, .mov (.c (.int .i64 0)), []⟩]) (.block 2 (.loop (.seq (.seq (.ops [⟨0, (some 18), none, .mov (.t 4), []⟩, ⟨1, (some 19), none, .mov (.t 0), []⟩, ⟨2, (some 20), none, .mov (.t 3), []⟩, ⟨3, (some 21), none, .ixs 1 (.t 19) (.t 20), []⟩, ⟨4, (some 22), none, .ld (.t 21), []⟩, ⟨5, (some 23), none, .len (.t 22), []⟩, ⟨6, (some 24), none, .bin .lss (.t 18) (.t 23), []⟩]) (.ite (.t 24) .skip (.exit 2))) (.seq (.block 3 (.ops [⟨0, (some 27), none, .mov (.t 0), []⟩, ⟨1, (some 28), none, .mov (.t 3), []⟩, ⟨2, (some 29), none, .ixs 1 (.t 27) (.t 28), []⟩, ⟨3, (some 30), none, .ld (.t 29), []⟩, ⟨4, (some 31), none, .mov (.t 4), []⟩, ⟨5, (some 32), none, .mov (.t 3), []⟩, ⟨6, (some 33), none, .bin .mul (.c (.int .i64 2)) (.t 32), []⟩, ⟨7, (some 34), none, .bin .add (.t 33) (.c (.int .i64 1)), []⟩, ⟨8, (some 35), none, .cnv .u16 (.t 34), []⟩, ⟨9, (some 36), none, .ixs 1 (.t 30) (.t 31), []⟩, ⟨10, none, none, .st (.t 36) (.t 35), []⟩])) (.ops [⟨0, (some 25), none, .mov (.t 4), []⟩, ⟨1, (some 26), none, .bin .add (.t 25) (.c (.int .i64 1)), []⟩, ⟨2, (some 4), none, .mov (.t 26), []⟩]))))))) (.ops [⟨0, (some 16), none, .mov (.t 3), []⟩, ⟨1, (some 17), none, .bin .add (.t 16) (.c (.int .i64 1)), []⟩, ⟨2, (some 3), none, .mov (.t 17), []⟩])))))) (.seq (.ops [⟨0, (some 37), none, .mov (.t 0), []⟩, ⟨1, (some 38), none, .len (.t 37), []⟩, ⟨2, (some 39), none, .mks 23 24 [.slice none 0 0] (.t 38) (.t 38), []⟩, ⟨3, (some 5), none, .mov (.t 39), []⟩]) (.seq (.seq (.ops [⟨0, (some 6), none, .mov (.c (.int .i64 0)), []⟩]) (.block 4 (.loop (.seq (.seq (.ops [⟨0, (some 40), none, .mov (.t 6), []⟩, ⟨1, (some 41), none, .mov (.t 0), []⟩, ⟨2, (some 42), none, .len (.t 41), []⟩, ⟨3, (some 43), none, .bin .lss (.t 40) (.t 42), []⟩]) (.ite (.t 43) .skip (.exit 4))) (.seq (.block 5 (.seq (.ops [⟨0, (some 46), none, .mov (.t 0), []⟩, ⟨1, (some 47), none, .mov (.t 6), []⟩, ⟨2, (some 48), none, .ixs 1 (.t 46) (.t 47), []⟩, ⟨3, (some 49), none, .ld (.t 48), []⟩, ⟨4, (some 7), none, .mov (.t 49), []⟩]) (.seq (.seq (.ops [⟨0, (some 8), none, .mov (.c (.int .i64 0)), []⟩]) (.block 6 (.loop (.seq (.seq (.ops [⟨0, (some 50), none, .mov (.t 8), []⟩, ⟨1, (some 51), none, .bin .lss (.t 50) (.c (.int .i64 80)), []⟩]) (.ite (.t 51) .skip (.exit 6))) (.seq (.block 7 (.ops [⟨0, (some 54), none, .mov (.t 7), []⟩, ⟨1, (some 55), none, .mov (.t 6), []⟩, ⟨2, (some 56), none, .bin .mul (.c (.int .i64 2)) (.t 55), []⟩, ⟨3, (some 57), none, .bin .add (.t 56) (.c (.int .i64 2)), []⟩, ⟨4, (some 58), none, .cnv .u16 (.t 57), []⟩, ⟨5, (some 59), none, .bsl 31 1 [.int .u16 0] [(0, (1, .t 58))], []⟩, ⟨6, (some 60), none, .app 31 2 [.int .u16 0] (.t 54) (.t 59), []⟩, ⟨7, (some 7), none, .mov (.t 60), []⟩])) (.ops [⟨0, (some 52), none, .mov (.t 8), []⟩, ⟨1, (some 53), none, .bin .add (.t 52) (.c (.int .i64 1)), []⟩, ⟨2, (some 8), none, .mov (.t 53), []⟩])))))) (.ops [⟨0, (some 61), none, .mov (.t 5), []⟩, ⟨1, (some 62), none, .mov (.t 6), []⟩, ⟨2, (some 63), none, .mov (.t 7), []⟩, ⟨3, (some 64), none, .ixs 1 (.t 61) (.t 62), []⟩, ⟨4, none, none, .st (.t 64) (.t 63), []⟩])))) (.ops [⟨0, (some 44), none, .mov (.t 6), []⟩, ⟨1, (some 45), none, .bin .add (.t 44) (.c (.int .i64 1)), []⟩, ⟨2, (some 6), none, .mov (.t 45), []⟩])))))) (.seq (.seq (.ops [⟨0, (some 9), none, .mov (.c (.int .i64 0)), []⟩]) (.block 8 (.loop (.seq (.seq (.ops [⟨0, (some 65), none, .mov (.t 9), []⟩, ⟨1, (some 66), none, .mov (.t 0), []⟩, ⟨2, (some 67), none, .len (.t 66), []⟩, ⟨3, (some 68), none, .bin .lss (.t 65) (.t 67), []⟩]) (.ite (.t 68) .skip (.exit 8))) (.seq (.block 9 (.seq (.ops [⟨0, (some 71), none, .mov (.t 0), []⟩, ⟨1, (some 72), none, .mov (.t 9), []⟩, ⟨2, (some 73), none, .ixs 1 (.t 71) (.t 72), []⟩, ⟨3, (some 74), none, .ld (.t 73), []⟩, ⟨4, (some 75), none, .len (.t 74), []⟩, ⟨5, (some 10), none, .mov (.t 75), []⟩]) (.seq (.ops [⟨0, (some 11), none, .mov (.c (.int .i64 0)), []⟩]) (.block 10 (.loop (.seq (.seq (.ops [⟨0, (some 76), none, .mov (.t 11), []⟩, ⟨1, (some 77), none, .mov (.t 5), []⟩, ⟨2, (some 78), none, .mov (.t 9), []⟩, ⟨3, (some 79), none, .ixs 1 (.t 77) (.t 78), []⟩, ⟨4, (some 80), none, .ld (.t 79), []⟩, ⟨5, (some 81), none, .len (.t 80), []⟩, ⟨6, (some 82), none, .bin .lss (.t 76) (.t 81), []⟩]) (.ite (.t 82) .skip (.exit 10))) (.seq (.block 11 (.seq (.ops [⟨0, (some 85), none, .mov (.t 11), []⟩, ⟨1, (some 86), none, .mov (.t 10), []⟩, ⟨2, (some 87), none, .bin .lss (.t 85) (.t 86), []⟩, ⟨3, (some 88), none, .mov (.t 87), []⟩, ⟨4, (some 89), (some (88, true)), .mov (.t 5), []⟩, ⟨5, (some 90), (some (88, true)), .mov (.t 9), []⟩, ⟨6, (some 91), (some (88, true)), .ixs 1 (.t 89) (.t 90), []⟩, ⟨7, (some 92), (some (88, true)), .ld (.t 91), []⟩, ⟨8, (some 93), (some (88, true)), .mov (.t 11), []⟩, ⟨9, (some 94), (some (88, true)), .ixs 1 (.t 92) (.t 93), []⟩, ⟨10, (some 95), (some (88, true)), .ld (.t 94), []⟩, ⟨11, (some 96), (some (88, true)), .mov (.t 9), []⟩, ⟨12, (some 97), (some (88, true)), .bin .mul (.c (.int .i64 2)) (.t 96), []⟩, ⟨13, (some 98), (some (88, true)), .bin .add (.t 97) (.c (.int .i64 1)), []⟩, ⟨14, (some 99), (some (88, true)), .cnv .u16 (.t 98), []⟩, ⟨15, (some 100), (some (88, true)), .bin .neq (.t 95) (.t 99), []⟩, ⟨16, (some 101), (some (88, true)), .mov (.t 100), []⟩, ⟨17, (some 102), (some (101, false)), .mov (.t 0), []⟩, ⟨18, (some 103), (some (101, false)), .mov (.t 9), []⟩, ⟨19, (some 104), (some (101, false)), .ixs 1 (.t 102) (.t 103), []⟩, ⟨20, (some 105), (some (101, false)), .ld (.t 104), []⟩, ⟨21, (some 106), (some (101, false)), .mov (.t 11), []⟩, ⟨22, (some 107), (some (101, false)), .ixs 1 (.t 105) (.t 106), []⟩, ⟨23, (some 108), (some (101, false)), .ld (.t 107), []⟩, ⟨24, (some 109), (some (101, false)), .mov (.t 9), []⟩, ⟨25, (some 110), (some (101, false)), .bin .mul (.c (.int .i64 2)) (.t 109), []⟩, ⟨26, (some 111), (some (101, false)), .bin .add (.t 110) (.c (.int .i64 1)), []⟩, ⟨27, (some 112), (some (101, false)), .cnv .u16 (.t 111), []⟩, ⟨28, (some 113), (some (101, false)), .bin .neq (.t 108) (.t 112), []⟩, ⟨29, (some 114), (some (88, true)), .pick (.t 101) (.c (.bool true)) (.t 113), []⟩, ⟨30, (some 115), none, .pick (.t 88) (.t 114) (.c (.bool false)), []⟩, ⟨31, (some 116), none, .mov (.t 115), []⟩, ⟨32, (some 117), (some (116, false)), .mov (.t 11), []⟩, ⟨33, (some 118), (some (116, false)), .mov (.t 10), []⟩, ⟨34, (some 119), (some (116, false)), .bin .geq (.t 117) (.t 118), []⟩, ⟨35, (some 120), (some (116, false)), .mov (.t 119), []⟩, ⟨36, (some 121), (some (120, true)), .mov (.t 5), []⟩, ⟨37, (some 122), (some (120, true)), .mov (.t 9), []⟩, ⟨38, (some 123), (some (120, true)), .ixs 1 (.t 121) (.t 122), []⟩, ⟨39, (some 124), (some (120, true)), .ld (.t 123), []⟩, ⟨40, (some 125), (some (120, true)), .mov (.t 11), []⟩, ⟨41, (some 126), (some (120, true)), .ixs 1 (.t 124) (.t 125), []⟩, ⟨42, (some 127), (some (120, true)), .ld (.t 126), []⟩, ⟨43, (some 128), (some (120, true)), .mov (.t 9), []⟩, ⟨44, (some 129), (some (120, true)), .bin .mul (.c (.int .i64 2)) (.t 128), []⟩, ⟨45, (some 130), (some (120, true)), .bin .add (.t 129) (.c (.int .i64 2)), []⟩, ⟨46, (some 131), (some (120, true)), .cnv .u16 (.t 130), []⟩, ⟨47, (some 132), (some (120, true)), .bin .neq (.t 127) (.t 131), []⟩, ⟨48, (some 133), (some (116, false)), .pick (.t 120) (.t 132) (.c (.bool false)), []⟩, ⟨49, (some 134), none, .pick (.t 116) (.c (.bool true)) (.t 133), []⟩]) (.ite (.t 134) (.seq (.ops [⟨0, (some 2), none, .mov (.c (.bool false)), []⟩]) .ret) .skip))) (.ops [⟨0, (some 83), none, .mov (.t 11), []⟩, ⟨1, (some 84), none, .bin .add (.t 83) (.c (.int .i64 1)), []⟩, ⟨2, (some 11), none, .mov (.t 84), []⟩])))))))) (.ops [⟨0, (some 69), none, .mov (.t 9), []⟩, ⟨1, (some 70), none, .bin .add (.t 69) (.c (.int .i64 1)), []⟩, ⟨2, (some 9), none, .mov (.t 70), []⟩])))))) (.seq (.ops [⟨0, (some 2), none, .mov (.c (.bool true)), []⟩]) .ret)))))
attribute [irreducible] c_culletlaw14_apart
theorem run_culletlaw14_apart {args : List Value} {w : World} {K : Value → World → Prop} (hn : args.length ≤ 135) (h : WP Try.prog c_culletlaw14_apart (endQ [.t 2] K) (initT args) w) : CallV Try.prog 23 args w K :=
  call_of follows Try.func23 (by kernel_rfl) (by kernel_rfl) hn h
end Go.Proofs.Ytpmfeaajpjjfiaa.Fw
namespace Go.Proofs.Ytpmfeaajpjjfiaa.Fw
open Go Go.Fw
theorem Hj_eq {hs : List Hd} {j : Nat} (h : j < hs.length) : Cell.v hs[j] = Hj hs j := by
  unfold Hj; rw [List.getD_eq_getElem?_getD, List.getElem?_eq_getElem h]; rfl
theorem rep_of {l : List (El 16)} {n : Nat} {x : El 16} (hl : l.length = n) (h : ∀ i, i < n → (co l).c i = x) : l = List.replicate n x :=
  co_ext (by simp [hl]) (Ps.ext fun i => by
    by_cases hi : i < n
    · rw [h i hi, co_get _ (by simpa using hi)]; simp
    · rw [co_dg l i (by omega), co_dg _ i (by simp; omega)])
theorem culletlaw14_apart_spec (w : World) (B : Nat) (F : World → Prop) (D : Nat → Prop) (rows : Value) (hs : List Hd) (R : List (List (El 16))) (hap : Apart rows hs) (hF : Frm F D) (hD : ∀ i (hi : i < hs.length) b, Fw.blk (Cell.v hs[i]) = some b → D b) (hDn : ∀ b, w.heap.size ≤ b → D b) (hM : Rof B F rows hs R w) (hrow : Fw.blk rows ≠ none) (hne : ∀ j, j < hs.length → 1 ≤ (R.getD j []).length ∧ (R.getD j []).length ≤ 1000000) (hn : hs.length ≤ 1000) :
    CallV Try.prog 23 [rows] w fun v w' => v = .bool true ∧ F w' := by
  refine run_culletlaw14_apart (by simp) ?_
  simp only [c_culletlaw14_apart, WS, List.getElem_cons_zero, List.getElem_cons_succ, Option.isNone_some, Option.isNone_none, List.getD_cons_zero, List.getD_cons_succ, I.at, atL, atO, atP, evp, evs, retV, ↓reduceIte, Nat.reduceEqDiff, reduceCtorEq]
  refine loop_of (fun t w' => t 0 = rows ∧ ∃ (i : Nat) (R' : List (List (El 16))), t 3 = .int .i64 (i : Int) ∧ i ≤ hs.length ∧ Rof B F rows hs R' w' ∧ w.heap.size ≤ w'.heap.size ∧ (∀ j, j < hs.length → (R'.getD j []).length = (R.getD j []).length) ∧ ∀ j, j < i → R'.getD j [] = List.replicate (R.getD j []).length (eN (2 * j + 1)))
    (fun t _ => hs.length - (toI (t 3)).toNat) ⟨by simp only [WS, List.getElem_cons_zero, List.getElem_cons_succ, Option.isNone_some, Option.isNone_none, List.getD_cons_zero, List.getD_cons_succ, I.at, atL, atO, atP, evp, evs, retV, ↓reduceIte, Nat.reduceEqDiff, reduceCtorEq], 0, R, rfl, by omega, hM, Nat.le_refl _, fun _ _ => rfl, fun j hj => by omega⟩ ?_
  clear hM
  rintro t w1 ⟨t0, i, R', t3, hi, hM, hszw, hlen, hdone⟩
  by_cases hil : i < hs.length
  · have hl := hM.1
    have W := (Rof.rws (B := B) hap hF hD).wr R' i hil hl
    have hlenI := hlen i hil
    have hni0 := (hne i hil).2
    simp (maxSteps := 1000000) (disch := omega) only [WS, List.getElem_cons_zero, List.getElem_cons_succ, Option.isNone_some, Option.isNone_none, List.getD_cons_zero, List.getD_cons_succ, I.at, atL, atO, atP, evp, evs, retV, ↓reduceIte, Nat.reduceEqDiff, reduceCtorEq, AS, t0, t3, hM.2.2.1.Xlen]
    refine loop_of (fun t w' => t 0 = rows ∧ t 3 = .int .i64 (i : Int) ∧ ∃ (j : Nat) (a : List (El 16)), t 4 = .int .i64 (j : Int) ∧ j ≤ a.length ∧ Rof B F rows hs (R'.set i a) w' ∧ w.heap.size ≤ w'.heap.size ∧ a.length = (R.getD i []).length ∧ ∀ x, x < j → (co a).c x = eN (2 * i + 1))
      (fun t _ => (R.getD i []).length - (toI (t 4)).toNat) ⟨by simp only [WS, List.getElem_cons_zero, List.getElem_cons_succ, Option.isNone_some, Option.isNone_none, List.getD_cons_zero, List.getD_cons_succ, I.at, atL, atO, atP, evp, evs, retV, ↓reduceIte, Nat.reduceEqDiff, reduceCtorEq]; exact t0, by simp only [WS, List.getElem_cons_zero, List.getElem_cons_succ, Option.isNone_some, Option.isNone_none, List.getD_cons_zero, List.getD_cons_succ, I.at, atL, atO, atP, evp, evs, retV, ↓reduceIte, Nat.reduceEqDiff, reduceCtorEq]; exact t3, 0, R'.getD i [], rfl, by omega, by rw [show R'.set i (R'.getD i []) = R' by rw [List.getD_eq_getElem?_getD, List.getElem?_eq_getElem (by omega)]; simp]; exact hM, hszw, hlenI, fun x hx => by omega⟩ ?_
    clear t0 t3 hM
    rintro t w2 ⟨t0, t3, j, a, t4, hj, hM, hsz2, ha, hav⟩
    have hrl := hM.2.2.1
    have hai := (hM.2.1 i hil).sl
    rw [getD_setL R' (by omega), if_pos rfl] at hai
    by_cases hja : j < a.length
    · have e1 : IntKind.u16.wrap ((2 * i + 1 : Nat) : Int) = ((eN (2 * i + 1)).v.toNat : Int) := by rw [wrap_u16 _ (by omega), eN_v _ (by omega)]
      simp (maxSteps := 1000000) (disch := omega) only [WS, List.getElem_cons_zero, List.getElem_cons_succ, Option.isNone_some, Option.isNone_none, List.getD_cons_zero, List.getD_cons_succ, I.at, atL, atO, atP, evp, evs, retV, ↓reduceIte, Nat.reduceEqDiff, reduceCtorEq, AS, t0, t3, t4, hrl.Xix hil, hrl.Xld hil, hai.Xlen, e1, hai.Xix hja]
      refine W.Xst hM hja (eN (2 * i + 1)) fun w3 hM3 hg3 => ?_
      simp (maxSteps := 1000000) (disch := omega) only [WS, List.getElem_cons_zero, List.getElem_cons_succ, Option.isNone_some, Option.isNone_none, List.getD_cons_zero, List.getD_cons_succ, I.at, atL, atO, atP, evp, evs, retV, ↓reduceIte, Nat.reduceEqDiff, reduceCtorEq, AS, t0, t3, t4]
      refine ⟨⟨j + 1, _, rfl, by simp; omega, hM3, Nat.le_trans hsz2 hg3.size, by simp [ha], fun x hx => ?_⟩, by omega⟩
      rw [co_set _ hja]
      by_cases hxj : x = j
      · rw [if_pos hxj]
      · rw [if_neg hxj]; exact hav x (by omega)
    · simp (maxSteps := 1000000) (disch := omega) only [WS, List.getElem_cons_zero, List.getElem_cons_succ, Option.isNone_some, Option.isNone_none, List.getD_cons_zero, List.getD_cons_succ, I.at, atL, atO, atP, evp, evs, retV, ↓reduceIte, Nat.reduceEqDiff, reduceCtorEq, AS, t0, t3, t4, hrl.Xix hil, hrl.Xld hil, hai.Xlen]
      refine ⟨⟨i + 1, R'.set i a, rfl, by omega, hM, hsz2, fun x hx => ?_, fun x hx => ?_⟩, by omega⟩
      · rw [getD_setL R' (by omega)]
        by_cases hxi : x = i
        · rw [if_pos hxi, ha, hxi]
        · rw [if_neg hxi]; exact hlen x hx
      · rw [getD_setL R' (by omega)]
        by_cases hxi : x = i
        · rw [if_pos hxi, hxi]; exact rep_of ha fun y hy => hav y (by omega)
        · rw [if_neg hxi]; exact hdone x (by omega)
  obtain rfl : i = hs.length := by omega
  obtain ⟨hl, hO, hrl, hbel, hsz⟩ := hM
  have hOj : ∀ j, j < hs.length → Ow B w1 (Hj hs j) (R'.getD j []) := fun j hj => by rw [← Hj_eq hj]; exact hO j hj
  have hR1 : ∀ j, j < hs.length → R'.getD j [] ≠ [] := fun j hj e => by have := hlen j hj; have := (hne j hj).1; rw [e] at *; simp at *; omega
  obtain ⟨rb, hrb⟩ : ∃ b, Fw.blk rows = some b := Option.ne_none_iff_exists'.1 hrow
  simp (maxSteps := 1000000) (disch := omega) only [WS, List.getElem_cons_zero, List.getElem_cons_succ, Option.isNone_some, Option.isNone_none, List.getD_cons_zero, List.getD_cons_succ, I.at, atL, atO, atP, evp, evs, retV, ↓reduceIte, Nat.reduceEqDiff, reduceCtorEq, AS, t0, t3, hrl.Xlen]
  refine X_mks (x := hdn) (by simp only [maxBytes]; omega) (by omega) fun gs w2 og hB => ?_
  by_cases hs0 : hs.length = 0
  · have Bf : F w2 := hF.up _ _ hbel hB
    have hrl2 := hrl.up hB
    simp (maxSteps := 1000000) (disch := omega) only [WS, List.getElem_cons_zero, List.getElem_cons_succ, Option.isNone_some, Option.isNone_none, List.getD_cons_zero, List.getD_cons_succ, I.at, atL, atO, atP, evp, evs, retV, ↓reduceIte, Nat.reduceEqDiff, reduceCtorEq, AS, t0]
    refine loop_of (fun t w' => t 0 = rows ∧ t 6 = .int .i64 0 ∧ w' = w2) (fun _ _ => 0) ⟨by simp only [WS, List.getElem_cons_zero, List.getElem_cons_succ, Option.isNone_some, Option.isNone_none, List.getD_cons_zero, List.getD_cons_succ, I.at, atL, atO, atP, evp, evs, retV, ↓reduceIte, Nat.reduceEqDiff, reduceCtorEq]; exact t0, by simp only [WS, List.getElem_cons_zero, List.getElem_cons_succ, Option.isNone_some, Option.isNone_none, List.getD_cons_zero, List.getD_cons_succ, I.at, atL, atO, atP, evp, evs, retV, ↓reduceIte, Nat.reduceEqDiff, reduceCtorEq], rfl⟩ ?_
    rintro t w' ⟨t0, t6, rfl⟩
    simp (maxSteps := 1000000) (disch := omega) only [WS, List.getElem_cons_zero, List.getElem_cons_succ, Option.isNone_some, Option.isNone_none, List.getD_cons_zero, List.getD_cons_succ, I.at, atL, atO, atP, evp, evs, retV, ↓reduceIte, Nat.reduceEqDiff, reduceCtorEq, AS, t0, t6, hrl2.Xlen, hs0]
    refine loop_of (fun t w2 => t 0 = rows ∧ t 9 = .int .i64 0 ∧ w2 = w') (fun _ _ => 0) ⟨by simp only [WS, List.getElem_cons_zero, List.getElem_cons_succ, Option.isNone_some, Option.isNone_none, List.getD_cons_zero, List.getD_cons_succ, I.at, atL, atO, atP, evp, evs, retV, ↓reduceIte, Nat.reduceEqDiff, reduceCtorEq]; exact t0, by simp only [WS, List.getElem_cons_zero, List.getElem_cons_succ, Option.isNone_some, Option.isNone_none, List.getD_cons_zero, List.getD_cons_succ, I.at, atL, atO, atP, evp, evs, retV, ↓reduceIte, Nat.reduceEqDiff, reduceCtorEq], rfl⟩ ?_
    rintro t w2 ⟨t0, t9, rfl⟩
    simp (maxSteps := 1000000) (disch := omega) only [WS, List.getElem_cons_zero, List.getElem_cons_succ, Option.isNone_some, Option.isNone_none, List.getD_cons_zero, List.getD_cons_succ, I.at, atL, atO, atP, evp, evs, retV, ↓reduceIte, Nat.reduceEqDiff, reduceCtorEq, AS, t0, t9, hrl2.Xlen, hs0]
    exact Bf
  obtain ⟨gsb, hgb, -⟩ := og.sl.blk_lt (by intro e; have h := congrArg List.length e; rw [List.length_replicate] at h; exact hs0 h)
  have hgsz : w1.heap.size ≤ gsb := (og.blk gsb hgb).1
  have hrlt : rb < w1.heap.size := by
    obtain ⟨b, hb, hlt⟩ := hrl.blk_lt (by intro e; rw [e] at hs0; simp at hs0)
    rw [hrb] at hb; cases hb; exact hlt
  have G0 : Gst (α := El 16) B F rows gs gsb hs (fun j => R'.getD j []) (List.replicate hs.length hdn) (fun j => R'.getD j [] ++ List.replicate 80 (eN (2 * j + 2))) 0 0 w2 := by
    refine ⟨hrl.up hB, og.mono hsz, hgb, by simp, hR1, fun j hj => ⟨(hOj j hj).sl.up hB, ?_⟩, fun j _ hj => (hOj j hj).up hB, fun j hj => by omega, fun j b hj hb => ?_, fun j m b hj hm hjm hb => ?_, fun b hb => ?_, fun j b hj => by omega, hF.up _ _ hbel hB, Nat.le_trans hsz hB.size⟩
    · rcases hOj j hj with ⟨-, hn⟩ | ⟨b, cap, rest, e, -, -, -⟩
      · exact absurd hn (hR1 j hj)
      · exact ⟨b, cap, e⟩
    · have := ((hOj j hj).blk b hb).2
      refine ⟨by omega, ?_⟩
      rw [← Hj_eq hj] at hb
      exact hap.list j hj b hb
    · rw [← Hj_eq hj] at hb
      rw [← Hj_eq hm]
      exact hap.two j m hj hm b hjm hb
    · rw [hrb] at hb; cases hb; omega
  have hDH : ∀ j b, j < hs.length → Fw.blk (Hj hs j) = some b → D b := fun j b hj hb => hD j hj b (by rw [Hj_eq hj]; exact hb)
  have hDg : ∀ b, gsb ≤ b → D b := fun b hb => hDn b (by omega)
  clear hOj hO hrl hB og hbel hsz
  simp (maxSteps := 1000000) (disch := omega) only [WS, List.getElem_cons_zero, List.getElem_cons_succ, Option.isNone_some, Option.isNone_none, List.getD_cons_zero, List.getD_cons_succ, I.at, atL, atO, atP, evp, evs, retV, ↓reduceIte, Nat.reduceEqDiff, reduceCtorEq, AS, t0]
  refine loop_of (fun t w' => t 0 = rows ∧ t 5 = gs ∧ ∃ (i : Nat) (G : List Hd), t 6 = .int .i64 (i : Int) ∧ i ≤ hs.length ∧ Gst (α := El 16) B F rows gs gsb hs (fun j => R'.getD j []) G (fun j => R'.getD j [] ++ List.replicate 80 (eN (2 * j + 2))) i i w')
    (fun t _ => hs.length - (toI (t 6)).toNat) ⟨by simp only [WS, List.getElem_cons_zero, List.getElem_cons_succ, Option.isNone_some, Option.isNone_none, List.getD_cons_zero, List.getD_cons_succ, I.at, atL, atO, atP, evp, evs, retV, ↓reduceIte, Nat.reduceEqDiff, reduceCtorEq]; exact t0, by simp only [WS, List.getElem_cons_zero, List.getElem_cons_succ, Option.isNone_some, Option.isNone_none, List.getD_cons_zero, List.getD_cons_succ, I.at, atL, atO, atP, evp, evs, retV, ↓reduceIte, Nat.reduceEqDiff, reduceCtorEq], 0, _, rfl, by omega, G0⟩ ?_
  clear t0 t3 G0
  rintro t w3 ⟨t0, t5, i, G, t6, hi, hG⟩
  by_cases hil : i < hs.length
  · have e1 := Hj_eq hil
    have hG1 : Gst (α := El 16) B F rows gs gsb hs (fun j => R'.getD j []) G (fun j => R'.getD j [] ++ List.replicate 80 (eN (2 * j + 2))) i (i + 1) w3 := ⟨hG.rl, hG.go, hG.gb, hG.gl, hG.ne, hG.hr, fun j h1 h2 => hG.ho j (by omega) h2, hG.gr, hG.hb, hG.h2, hG.rb, hG.gk, hG.fr, hG.sz⟩
    have hc : Gcur (α := El 16) B gsb hs (fun j => R'.getD j []) G i (Hj hs i) (R'.getD i []) w3 := ⟨hG.ho i (Nat.le_refl _) hil, ⟨[], by simp⟩, fun b hb => Or.inl hb⟩
    have hli := hlen i hil
    have hni := (hne i hil).2
    simp (maxSteps := 1000000) (disch := omega) only [WS, List.getElem_cons_zero, List.getElem_cons_succ, Option.isNone_some, Option.isNone_none, List.getD_cons_zero, List.getD_cons_succ, I.at, atL, atO, atP, evp, evs, retV, ↓reduceIte, Nat.reduceEqDiff, reduceCtorEq, AS, t0, t5, t6, hG.rl.Xlen, hG.rl.Xix hil, hG.rl.Xld hil, e1]
    refine loop_of (fun t w' => t 0 = rows ∧ t 5 = gs ∧ t 6 = .int .i64 (i : Int) ∧ ∃ (c : Nat) (g : Value), t 8 = .int .i64 (c : Int) ∧ t 7 = g ∧ c ≤ 80 ∧ Gst (α := El 16) B F rows gs gsb hs (fun j => R'.getD j []) G (fun j => R'.getD j [] ++ List.replicate 80 (eN (2 * j + 2))) i (i + 1) w' ∧ Gcur (α := El 16) B gsb hs (fun j => R'.getD j []) G i g (R'.getD i [] ++ List.replicate c (eN (2 * i + 2))) w')
      (fun t _ => 80 - (toI (t 8)).toNat) ⟨by simp only [WS, List.getElem_cons_zero, List.getElem_cons_succ, Option.isNone_some, Option.isNone_none, List.getD_cons_zero, List.getD_cons_succ, I.at, atL, atO, atP, evp, evs, retV, ↓reduceIte, Nat.reduceEqDiff, reduceCtorEq]; exact t0, by simp only [WS, List.getElem_cons_zero, List.getElem_cons_succ, Option.isNone_some, Option.isNone_none, List.getD_cons_zero, List.getD_cons_succ, I.at, atL, atO, atP, evp, evs, retV, ↓reduceIte, Nat.reduceEqDiff, reduceCtorEq]; exact t5, by simp only [WS, List.getElem_cons_zero, List.getElem_cons_succ, Option.isNone_some, Option.isNone_none, List.getD_cons_zero, List.getD_cons_succ, I.at, atL, atO, atP, evp, evs, retV, ↓reduceIte, Nat.reduceEqDiff, reduceCtorEq]; exact t6, 0, Hj hs i, rfl, by simp only [WS, List.getElem_cons_zero, List.getElem_cons_succ, Option.isNone_some, Option.isNone_none, List.getD_cons_zero, List.getD_cons_succ, I.at, atL, atO, atP, evp, evs, retV, ↓reduceIte, Nat.reduceEqDiff, reduceCtorEq], by omega, hG1, by simpa using hc⟩ ?_
    clear t0 t5 t6 hG hG1 hc
    rintro t w4 ⟨t0, t5, t6, c, g, t8, t7, hc80, hG, hc⟩
    by_cases hlt : c < 80
    · have e2 : IntKind.u16.wrap ((2 * i + 2 : Nat) : Int) = ((eN (2 * i + 2)).v.toNat : Int) := by rw [wrap_u16 _ (by omega), eN_v _ (by omega)]
      simp (maxSteps := 1000000) (disch := omega) only [WS, List.getElem_cons_zero, List.getElem_cons_succ, Option.isNone_some, Option.isNone_none, List.getD_cons_zero, List.getD_cons_succ, I.at, atL, atO, atP, evp, evs, retV, ↓reduceIte, Nat.reduceEqDiff, reduceCtorEq, AS, t0, t5, t6, t7, t8, e2]
      refine X_bsl (zs := [eN (2 * i + 2)]) (by rfl) (by rfl) fun e3 w5 o3 hB => ?_
      have hG := hG.up hF hB
      have hc := hc.up hB
      simp (maxSteps := 1000000) (disch := omega) only [WS, List.getElem_cons_zero, List.getElem_cons_succ, Option.isNone_some, Option.isNone_none, List.getD_cons_zero, List.getD_cons_succ, I.at, atL, atO, atP, evp, evs, retV, ↓reduceIte, Nat.reduceEqDiff, reduceCtorEq, AS]
      refine Ow.Xapp2 hc.own o3.sl hG.sz (by simp only [List.length_append, List.length_replicate, List.length_cons, List.length_nil, maxBytes]; omega) (by simp only [List.length_append, List.length_replicate, List.length_cons, List.length_nil]; omega) fun g' w6 og' hgr => ?_
      obtain ⟨hG6, hc6⟩ := hG.app hF hDH hDg hil hi hc og' hgr
      simp (maxSteps := 1000000) (disch := omega) only [WS, List.getElem_cons_zero, List.getElem_cons_succ, Option.isNone_some, Option.isNone_none, List.getD_cons_zero, List.getD_cons_succ, I.at, atL, atO, atP, evp, evs, retV, ↓reduceIte, Nat.reduceEqDiff, reduceCtorEq, AS, t0, t5, t6, t8]
      refine ⟨⟨c + 1, g', rfl, rfl, by omega, hG6, ?_⟩, by omega⟩
      rw [List.append_assoc, ← List.replicate_succ'] at hc6
      exact hc6
    · obtain rfl : c = 80 := by omega
      have iG : i < G.length := by rw [hG.gl]; exact hil
      have hv1 : Cell.v (hd g) = g := hc.own.sl.hd.1
      simp (maxSteps := 1000000) (disch := omega) only [WS, List.getElem_cons_zero, List.getElem_cons_succ, Option.isNone_some, Option.isNone_none, List.getD_cons_zero, List.getD_cons_succ, I.at, atL, atO, atP, evp, evs, retV, ↓reduceIte, Nat.reduceEqDiff, reduceCtorEq, AS, t0, t5, t6, t7, t8, hG.go.sl.Xix iG]
      rw [← hv1]
      refine Ow.Xst hG.go iG (hd g) fun w5 og hgr => ?_
      have hG5 := hG.lay hF hDg hil hc og hgr rfl
      simp (maxSteps := 1000000) (disch := omega) only [WS, List.getElem_cons_zero, List.getElem_cons_succ, Option.isNone_some, Option.isNone_none, List.getD_cons_zero, List.getD_cons_succ, I.at, atL, atO, atP, evp, evs, retV, ↓reduceIte, Nat.reduceEqDiff, reduceCtorEq, AS, t0, t5, t6]
      exact ⟨⟨i + 1, _, rfl, by omega, hG5⟩, by omega⟩
  · obtain rfl : i = hs.length := by omega
    simp (maxSteps := 1000000) (disch := omega) only [WS, List.getElem_cons_zero, List.getElem_cons_succ, Option.isNone_some, Option.isNone_none, List.getD_cons_zero, List.getD_cons_succ, I.at, atL, atO, atP, evp, evs, retV, ↓reduceIte, Nat.reduceEqDiff, reduceCtorEq, AS, t0, t5, t6, hG.rl.Xlen]
    refine loop_of (fun t w' => t 0 = rows ∧ t 5 = gs ∧ w' = w3 ∧ ∃ i : Nat, t 9 = .int .i64 (i : Int) ∧ i ≤ hs.length) (fun t _ => hs.length - (toI (t 9)).toNat) ⟨by simp only [WS, List.getElem_cons_zero, List.getElem_cons_succ, Option.isNone_some, Option.isNone_none, List.getD_cons_zero, List.getD_cons_succ, I.at, atL, atO, atP, evp, evs, retV, ↓reduceIte, Nat.reduceEqDiff, reduceCtorEq]; exact t0, by simp only [WS, List.getElem_cons_zero, List.getElem_cons_succ, Option.isNone_some, Option.isNone_none, List.getD_cons_zero, List.getD_cons_succ, I.at, atL, atO, atP, evp, evs, retV, ↓reduceIte, Nat.reduceEqDiff, reduceCtorEq]; exact t5, rfl, 0, rfl, by omega⟩ ?_
    clear t0 t5 t6
    rintro t w' ⟨t0, t5, rfl, i, t9, hi⟩
    by_cases hil : i < hs.length
    · have e1 := Hj_eq hil
      have iG : i < G.length := by rw [hG.gl]; exact hil
      have e2 := Hj_eq iG
      have hH := (hG.hr i hil).1
      have hGi := (hG.gr i hil).sl
      have hli := hlen i hil
      have hni := hne i hil
      have hdi := hdone i hil
      simp only [hdi] at hH hGi
      generalize hnl : (R.getD i []).length = n at *
      have ln1 : (List.replicate n (eN (2 * i + 1))).length = n := List.length_replicate
      have ln2 : (List.replicate n (eN (2 * i + 1)) ++ List.replicate 80 (eN (2 * i + 2))).length = n + 80 := by simp
      simp (maxSteps := 1000000) (disch := omega) only [WS, List.getElem_cons_zero, List.getElem_cons_succ, Option.isNone_some, Option.isNone_none, List.getD_cons_zero, List.getD_cons_succ, I.at, atL, atO, atP, evp, evs, retV, ↓reduceIte, Nat.reduceEqDiff, reduceCtorEq, AS, t0, t5, t9, hG.rl.Xlen, hG.rl.Xix hil, hG.rl.Xld hil, e1, hH.Xlen, ln1]
      refine loop_of (fun t w2 => t 0 = rows ∧ t 5 = gs ∧ t 9 = .int .i64 (i : Int) ∧ t 10 = .int .i64 (n : Int) ∧ w2 = w' ∧ ∃ j : Nat, t 11 = .int .i64 (j : Int) ∧ j ≤ n + 80) (fun t _ => n + 80 - (toI (t 11)).toNat) ⟨by simp only [WS, List.getElem_cons_zero, List.getElem_cons_succ, Option.isNone_some, Option.isNone_none, List.getD_cons_zero, List.getD_cons_succ, I.at, atL, atO, atP, evp, evs, retV, ↓reduceIte, Nat.reduceEqDiff, reduceCtorEq]; exact t0, by simp only [WS, List.getElem_cons_zero, List.getElem_cons_succ, Option.isNone_some, Option.isNone_none, List.getD_cons_zero, List.getD_cons_succ, I.at, atL, atO, atP, evp, evs, retV, ↓reduceIte, Nat.reduceEqDiff, reduceCtorEq]; exact t5, by simp only [WS, List.getElem_cons_zero, List.getElem_cons_succ, Option.isNone_some, Option.isNone_none, List.getD_cons_zero, List.getD_cons_succ, I.at, atL, atO, atP, evp, evs, retV, ↓reduceIte, Nat.reduceEqDiff, reduceCtorEq]; exact t9, by simp only [WS, List.getElem_cons_zero, List.getElem_cons_succ, Option.isNone_some, Option.isNone_none, List.getD_cons_zero, List.getD_cons_succ, I.at, atL, atO, atP, evp, evs, retV, ↓reduceIte, Nat.reduceEqDiff, reduceCtorEq], rfl, 0, rfl, by omega⟩ ?_
      clear t0 t5 t9
      rintro t w2 ⟨t0, t5, t9, t10, rfl, j, t11, hj⟩
      by_cases hjn : j < n + 80
      · have i2 : j < (List.replicate n (eN (2 * i + 1)) ++ List.replicate 80 (eN (2 * i + 2))).length := by omega
        have f1 : IntKind.u16.wrap ((2 * i + 1 : Nat) : Int) = ((eN (2 * i + 1)).v.toNat : Int) := by rw [wrap_u16 _ (by omega), eN_v _ (by omega)]
        have f2 : IntKind.u16.wrap ((2 * i + 2 : Nat) : Int) = ((eN (2 * i + 2)).v.toNat : Int) := by rw [wrap_u16 _ (by omega), eN_v _ (by omega)]
        by_cases hjl : j < n
        · have i1 : j < (List.replicate n (eN (2 * i + 1))).length := by omega
          have v1 : (List.replicate n (eN (2 * i + 1)))[j] = eN (2 * i + 1) := by simp
          have v2 : (List.replicate n (eN (2 * i + 1)) ++ List.replicate 80 (eN (2 * i + 2)))[j] = eN (2 * i + 1) := by rw [List.getElem_append_left i1, List.getElem_replicate]
          simp (maxSteps := 1000000) (disch := omega) only [WS, List.getElem_cons_zero, List.getElem_cons_succ, Option.isNone_some, Option.isNone_none, List.getD_cons_zero, List.getD_cons_succ, I.at, atL, atO, atP, evp, evs, retV, ↓reduceIte, Nat.reduceEqDiff, reduceCtorEq, AS, t0, t5, t9, t10, t11, hG.go.sl.Xix iG, hG.go.sl.Xld iG, e2, hGi.Xlen, ln2, hGi.Xix i2, hGi.Xld i2, v2, cell_e16, f1, show decide (((eN (2 * i + 1)).v.toNat : Int) = ((eN (2 * i + 1)).v.toNat : Int)) = true from decide_eq_true rfl, hG.rl.Xix hil, hG.rl.Xld hil, e1, hH.Xix i1, hH.Xld i1, v1]
          exact ⟨⟨j + 1, rfl, by omega⟩, by omega⟩
        · have v2 : (List.replicate n (eN (2 * i + 1)) ++ List.replicate 80 (eN (2 * i + 2)))[j] = eN (2 * i + 2) := by rw [List.getElem_append_right (by rw [List.length_replicate]; omega), List.getElem_replicate]
          simp (maxSteps := 1000000) (disch := omega) only [WS, List.getElem_cons_zero, List.getElem_cons_succ, Option.isNone_some, Option.isNone_none, List.getD_cons_zero, List.getD_cons_succ, I.at, atL, atO, atP, evp, evs, retV, ↓reduceIte, Nat.reduceEqDiff, reduceCtorEq, AS, t0, t5, t9, t10, t11, hG.go.sl.Xix iG, hG.go.sl.Xld iG, e2, hGi.Xlen, ln2, hGi.Xix i2, hGi.Xld i2, v2, cell_e16, f2, show decide (((eN (2 * i + 2)).v.toNat : Int) = ((eN (2 * i + 2)).v.toNat : Int)) = true from decide_eq_true rfl]
          exact ⟨⟨j + 1, rfl, by omega⟩, by omega⟩
      · simp (maxSteps := 1000000) (disch := omega) only [WS, List.getElem_cons_zero, List.getElem_cons_succ, Option.isNone_some, Option.isNone_none, List.getD_cons_zero, List.getD_cons_succ, I.at, atL, atO, atP, evp, evs, retV, ↓reduceIte, Nat.reduceEqDiff, reduceCtorEq, AS, t0, t5, t9, t10, t11, hG.go.sl.Xix iG, hG.go.sl.Xld iG, e2, hGi.Xlen, ln2]
        exact ⟨⟨i + 1, rfl, by omega⟩, by omega⟩
    · simp (maxSteps := 1000000) (disch := omega) only [WS, List.getElem_cons_zero, List.getElem_cons_succ, Option.isNone_some, Option.isNone_none, List.getD_cons_zero, List.getD_cons_succ, I.at, atL, atO, atP, evp, evs, retV, ↓reduceIte, Nat.reduceEqDiff, reduceCtorEq, AS, t0, t5, t9, hG.rl.Xlen]
      exact hG.fr
end Go.Proofs.Ytpmfeaajpjjfiaa.Fw
