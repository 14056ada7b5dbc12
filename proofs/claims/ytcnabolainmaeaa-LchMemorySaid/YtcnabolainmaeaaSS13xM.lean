import Derived.Test.YtcnabolainmaeaaProg
import Derived.Test.YtcnabolainmaeaaFwTM
import Derived.Test.YtcnabolainmaeaaSS13qM
import Derived.Test.YtcnabolainmaeaaSS13wM
import Derived.Test.YtcnabolainmaeaaFwApM
import Derived.Test.YtcnabolainmaeaaFwYM
set_option linter.all false
set_option linter.unusedVariables false
set_option linter.unusedSimpArgs false
set_option maxRecDepth 100000
set_option maxHeartbeats 1000000
namespace Go.Proofs.Ytcnabolainmaeaa.Fw
open Go Go.Fw Go.Proofs
attribute [local irreducible] stepI
def c_culletlaw13_apart : C := .seq (.ops [⟨0, (some 2), none, .mov (.c (.bool false)), []⟩]) (.seq (.ops [⟨0, (some 10), none, .mov (.t 0), []⟩, ⟨1, (some 11), none, .len (.t 10), []⟩, ⟨2, (some 12), none, .mks 27 24 [.slice none 0 0] (.t 11) (.t 11), []⟩, ⟨3, (some 3), none, .mov (.t 12), []⟩]) (.seq (.seq (.ops [⟨0, (some 4), none, .mov (.c (.int .i64 0)), []⟩]) (.block 0 (.loop (.seq (.seq (.ops [⟨0, (some 13), none, .mov (.t 4), []⟩, ⟨1, (some 14), none, .mov (.t 0), []⟩, ⟨2, (some 15), none, .len (.t 14), []⟩, ⟨3, (some 16), none, .bin .lss (.t 13) (.t 15), []⟩]) (.ite (.t 16) .skip (.exit 0))) (.seq (.block 1 (.seq (.seq (.ops [⟨0, (some 5), none, .mov (.c (.int .i64 0)), []⟩]) (.block 2 (.loop (.seq (.seq (.ops [⟨0, (some 19), none, .mov (.t 5), []⟩, ⟨1, (some 20), none, .mov (.t 0), []⟩, ⟨2, (some 21), none, .mov (.t 4), []⟩, ⟨3, (some 22), none, .ixs 1 (.t 20) (.t 21), []⟩, ⟨4, (some 23), none, .ld (.t 22), []⟩, ⟨5, (some 24), none, .len (.t 23), []⟩, ⟨6, (some 25), none, .bin .lss (.t 19) (.t 24), []⟩]) (.ite (.t 25) .skip (.exit 2))) (.seq (.block 3 (.ops [⟨0, (some 28), none, .mov (.t 0), []⟩, ⟨1, (some 29), none, .mov (.t 4), []⟩, ⟨2, (some 30), none, .ixs 1 (.t 28) (.t 29), []⟩, ⟨3, (some 31), none, .ld (.t 30), []⟩, ⟨4, (some 32), none, .mov (.t 5), []⟩, ⟨5, (some 33), none, .mov (.t 4), []⟩, ⟨6, (some 34), none, .bin .mul (.c (.int .i64 2)) (.t 33), []⟩, ⟨7, (some 35), none, .cnv .u16 (.t 34), []⟩, ⟨8, (some 36), none, .ixs 1 (.t 31) (.t 32), []⟩, ⟨9, none, none, .st (.t 36) (.t 35), []⟩])) (.ops [⟨0, (some 26), none, .mov (.t 5), []⟩, ⟨1, (some 27), none, .bin .add (.t 26) (.c (.int .i64 1)), []⟩, ⟨2, (some 5), none, .mov (.t 27), []⟩])))))) (.ops [⟨0, (some 37), none, .mov (.t 3), []⟩, ⟨1, (some 38), none, .mov (.t 4), []⟩, ⟨2, (some 39), none, .mov (.t 0), []⟩, ⟨3, (some 40), none, .mov (.t 4), []⟩, ⟨4, (some 41), none, .ixs 1 (.t 39) (.t 40), []⟩, ⟨5, (some 42), none, .ld (.t 41), []⟩, ⟨6, (some 43), none, .ixs 1 (.t 37) (.t 38), []⟩, ⟨7, none, none, .st (.t 43) (.t 42), []⟩]))) (.ops [⟨0, (some 17), none, .mov (.t 4), []⟩, ⟨1, (some 18), none, .bin .add (.t 17) (.c (.int .i64 1)), []⟩, ⟨2, (some 4), none, .mov (.t 18), []⟩])))))) (.seq (.seq (.ops [⟨0, (some 6), none, .mov (.c (.int .i64 0)), []⟩]) (.block 4 (.loop (.seq (.seq (.ops [⟨0, (some 44), none, .mov (.t 6), []⟩, ⟨1, (some 45), none, .mov (.t 0), []⟩, ⟨2, (some 46), none, .len (.t 45), []⟩, ⟨3, (some 47), none, .bin .lss (.t 44) (.t 46), []⟩]) (.ite (.t 47) .skip (.exit 4))) (.seq (.block 5 (.seq (.ops [⟨0, (some 7), none, .mov (.c (.int .i64 0)), []⟩]) (.block 6 (.loop (.seq (.seq (.ops [⟨0, (some 50), none, .mov (.t 7), []⟩, ⟨1, (some 51), none, .bin .lss (.t 50) (.c (.int .i64 300)), []⟩]) (.ite (.t 51) .skip (.exit 6))) (.seq (.block 7 (.ops [⟨0, (some 54), none, .mov (.t 3), []⟩, ⟨1, (some 55), none, .mov (.t 6), []⟩, ⟨2, (some 56), none, .mov (.t 3), []⟩, ⟨3, (some 57), none, .mov (.t 6), []⟩, ⟨4, (some 58), none, .ixs 1 (.t 56) (.t 57), []⟩, ⟨5, (some 59), none, .ld (.t 58), []⟩, ⟨6, (some 60), none, .mov (.t 6), []⟩, ⟨7, (some 61), none, .bin .mul (.c (.int .i64 2)) (.t 60), []⟩, ⟨8, (some 62), none, .bin .add (.t 61) (.c (.int .i64 1)), []⟩, ⟨9, (some 63), none, .cnv .u16 (.t 62), []⟩, ⟨10, (some 64), none, .bsl 22 1 [.int .u16 0] [(0, (1, .t 63))], []⟩, ⟨11, (some 65), none, .app 22 2 [.int .u16 0] (.t 59) (.t 64), []⟩, ⟨12, (some 66), none, .ixs 1 (.t 54) (.t 55), []⟩, ⟨13, none, none, .st (.t 66) (.t 65), []⟩])) (.ops [⟨0, (some 52), none, .mov (.t 7), []⟩, ⟨1, (some 53), none, .bin .add (.t 52) (.c (.int .i64 1)), []⟩, ⟨2, (some 7), none, .mov (.t 53), []⟩]))))))) (.ops [⟨0, (some 48), none, .mov (.t 6), []⟩, ⟨1, (some 49), none, .bin .add (.t 48) (.c (.int .i64 1)), []⟩, ⟨2, (some 6), none, .mov (.t 49), []⟩])))))) (.seq (.seq (.ops [⟨0, (some 8), none, .mov (.c (.int .i64 0)), []⟩]) (.block 8 (.loop (.seq (.seq (.ops [⟨0, (some 67), none, .mov (.t 8), []⟩, ⟨1, (some 68), none, .mov (.t 0), []⟩, ⟨2, (some 69), none, .len (.t 68), []⟩, ⟨3, (some 70), none, .bin .lss (.t 67) (.t 69), []⟩]) (.ite (.t 70) .skip (.exit 8))) (.seq (.block 9 (.seq (.ops [⟨0, (some 9), none, .mov (.c (.int .i64 0)), []⟩]) (.block 10 (.loop (.seq (.seq (.ops [⟨0, (some 73), none, .mov (.t 9), []⟩, ⟨1, (some 74), none, .mov (.t 3), []⟩, ⟨2, (some 75), none, .mov (.t 8), []⟩, ⟨3, (some 76), none, .ixs 1 (.t 74) (.t 75), []⟩, ⟨4, (some 77), none, .ld (.t 76), []⟩, ⟨5, (some 78), none, .len (.t 77), []⟩, ⟨6, (some 79), none, .bin .lss (.t 73) (.t 78), []⟩]) (.ite (.t 79) .skip (.exit 10))) (.seq (.block 11 (.seq (.seq (.ops [⟨0, (some 82), none, .mov (.t 9), []⟩, ⟨1, (some 83), none, .mov (.t 0), []⟩, ⟨2, (some 84), none, .mov (.t 8), []⟩, ⟨3, (some 85), none, .ixs 1 (.t 83) (.t 84), []⟩, ⟨4, (some 86), none, .ld (.t 85), []⟩, ⟨5, (some 87), none, .len (.t 86), []⟩, ⟨6, (some 88), none, .bin .lss (.t 82) (.t 87), []⟩, ⟨7, (some 89), none, .mov (.t 88), []⟩, ⟨8, (some 90), (some (89, true)), .mov (.t 0), []⟩, ⟨9, (some 91), (some (89, true)), .mov (.t 8), []⟩, ⟨10, (some 92), (some (89, true)), .ixs 1 (.t 90) (.t 91), []⟩, ⟨11, (some 93), (some (89, true)), .ld (.t 92), []⟩, ⟨12, (some 94), (some (89, true)), .mov (.t 9), []⟩, ⟨13, (some 95), (some (89, true)), .ixs 1 (.t 93) (.t 94), []⟩, ⟨14, (some 96), (some (89, true)), .ld (.t 95), []⟩, ⟨15, (some 97), (some (89, true)), .mov (.t 8), []⟩, ⟨16, (some 98), (some (89, true)), .bin .mul (.c (.int .i64 2)) (.t 97), []⟩, ⟨17, (some 99), (some (89, true)), .cnv .u16 (.t 98), []⟩, ⟨18, (some 100), (some (89, true)), .bin .neq (.t 96) (.t 99), []⟩, ⟨19, (some 101), (some (89, true)), .mov (.t 100), []⟩, ⟨20, (some 102), (some (101, false)), .mov (.t 3), []⟩, ⟨21, (some 103), (some (101, false)), .mov (.t 8), []⟩, ⟨22, (some 104), (some (101, false)), .ixs 1 (.t 102) (.t 103), []⟩, ⟨23, (some 105), (some (101, false)), .ld (.t 104), []⟩, ⟨24, (some 106), (some (101, false)), .mov (.t 9), []⟩, ⟨25, (some 107), (some (101, false)), .ixs 1 (.t 105) (.t 106), []⟩, ⟨26, (some 108), (some (101, false)), .ld (.t 107), []⟩, ⟨27, (some 109), (some (101, false)), .mov (.t 8), []⟩, ⟨28, (some 110), (some (101, false)), .bin .mul (.c (.int .i64 2)) (.t 109), []⟩, ⟨29, (some 111), (some (101, false)), .cnv .u16 (.t 110), []⟩, ⟨30, (some 112), (some (101, false)), .bin .neq (.t 108) (.t 111), []⟩, ⟨31, (some 113), (some (89, true)), .pick (.t 101) (.c (.bool true)) (.t 112), []⟩, ⟨32, (some 114), none, .pick (.t 89) (.t 113) (.c (.bool false)), []⟩]) (.ite (.t 114) (.seq (.ops [⟨0, (some 2), none, .mov (.c (.bool false)), []⟩]) .ret) .skip)) (.seq (.ops [⟨0, (some 115), none, .mov (.t 9), []⟩, ⟨1, (some 116), none, .mov (.t 0), []⟩, ⟨2, (some 117), none, .mov (.t 8), []⟩, ⟨3, (some 118), none, .ixs 1 (.t 116) (.t 117), []⟩, ⟨4, (some 119), none, .ld (.t 118), []⟩, ⟨5, (some 120), none, .len (.t 119), []⟩, ⟨6, (some 121), none, .bin .geq (.t 115) (.t 120), []⟩, ⟨7, (some 122), none, .mov (.t 121), []⟩, ⟨8, (some 123), (some (122, true)), .mov (.t 3), []⟩, ⟨9, (some 124), (some (122, true)), .mov (.t 8), []⟩, ⟨10, (some 125), (some (122, true)), .ixs 1 (.t 123) (.t 124), []⟩, ⟨11, (some 126), (some (122, true)), .ld (.t 125), []⟩, ⟨12, (some 127), (some (122, true)), .mov (.t 9), []⟩, ⟨13, (some 128), (some (122, true)), .ixs 1 (.t 126) (.t 127), []⟩, ⟨14, (some 129), (some (122, true)), .ld (.t 128), []⟩, ⟨15, (some 130), (some (122, true)), .mov (.t 8), []⟩, ⟨16, (some 131), (some (122, true)), .bin .mul (.c (.int .i64 2)) (.t 130), []⟩, ⟨17, (some 132), (some (122, true)), .bin .add (.t 131) (.c (.int .i64 1)), []⟩, ⟨18, (some 133), (some (122, true)), .cnv .u16 (.t 132), []⟩, ⟨19, (some 134), (some (122, true)), .bin .neq (.t 129) (.t 133), []⟩, ⟨20, (some 135), none, .pick (.t 122) (.t 134) (.c (.bool false)), []⟩]) (.ite (.t 135) (.seq (.ops [⟨0, (some 2), none, .mov (.c (.bool false)), []⟩]) .ret) .skip)))) (.ops [⟨0, (some 80), none, .mov (.t 9), []⟩, ⟨1, (some 81), none, .bin .add (.t 80) (.c (.int .i64 1)), []⟩, ⟨2, (some 9), none, .mov (.t 81), []⟩]))))))) (.ops [⟨0, (some 71), none, .mov (.t 8), []⟩, ⟨1, (some 72), none, .bin .add (.t 71) (.c (.int .i64 1)), []⟩, ⟨2, (some 8), none, .mov (.t 72), []⟩])))))) (.seq (.ops [⟨0, (some 2), none, .mov (.c (.bool true)), []⟩]) .ret)))))
attribute [irreducible] c_culletlaw13_apart
theorem run_culletlaw13_apart {args : List Value} {w : World} {K : Value → World → Prop} (hn : args.length ≤ 136) (h : WP Try.prog c_culletlaw13_apart (endQ [.t 2] K) (initT args) w) : CallV Try.prog 28 args w K :=
  call_of follows Try.func28 (by kernel_rfl) (by kernel_rfl) hn h
end Go.Proofs.Ytcnabolainmaeaa.Fw
namespace Go.Proofs.Ytcnabolainmaeaa.Fw
open Go Go.Fw
theorem Hj_eq {hs : List Hd} {j : Nat} (h : j < hs.length) : Cell.v hs[j] = Hj hs j := (Hj_get h).symm
theorem rep_of {l : List (El 16)} {n : Nat} {x : El 16} (hl : l.length = n) (h : ∀ i, i < n → (co l).c i = x) : l = List.replicate n x :=
  co_ext (by simp [hl]) (Ps.ext fun i => by
    by_cases hi : i < n
    · rw [h i hi, co_get _ (by simpa using hi)]; simp
    · rw [co_dg l i (by omega), co_dg _ i (by simp; omega)])
set_option maxHeartbeats 8000000 in
theorem culletlaw13_apart_spec (w : World) (B : Nat) (F : World → Prop) (D : Nat → Prop) (rows : Value) (hs : List Hd) (R : List (List (El 16))) (hap : Apart rows hs) (hF : Frm F D) (hD : ∀ i (hi : i < hs.length) b, Fw.blk (Cell.v hs[i]) = some b → D b) (hDn : ∀ b, w.heap.size ≤ b → D b) (hM : Rof B F rows hs R w) (hne : ∀ j, j < hs.length → (R.getD j []).length ≤ 1000000) (hn0 : 0 < hs.length) (hn : hs.length ≤ 1000) :
    CallV Try.prog 28 [rows] w fun v w' => v = .bool true ∧ F w' := by
  refine run_culletlaw13_apart (by simp) ?_
  simp only [c_culletlaw13_apart, WS, List.getElem_cons_zero, List.getElem_cons_succ, Option.isNone_some, Option.isNone_none, List.getD_cons_zero, List.getD_cons_succ, I.at, atL, atO, atP, evp, evs, retV, ↓reduceIte, Nat.reduceEqDiff, reduceCtorEq]
  simp (maxSteps := 1000000) (disch := omega) only [WS, List.getElem_cons_zero, List.getElem_cons_succ, Option.isNone_some, Option.isNone_none, List.getD_cons_zero, List.getD_cons_succ, I.at, atL, atO, atP, evp, evs, retV, ↓reduceIte, Nat.reduceEqDiff, reduceCtorEq, AS, hM.2.2.1.Xlen]
  refine X_mks (x := hdn) (by simp only [maxBytes]; omega) (by omega) fun gs w0 og hB => ?_
  obtain ⟨gsb, hgb, hgbl⟩ := og.sl.blk_lt (by intro e; have h := congrArg List.length e; rw [List.length_replicate] at h; have h2 : hs.length = 0 := h; omega)
  have hgsz : w.heap.size ≤ gsb := (og.blk gsb hgb).1
  obtain ⟨rb, hrb, hrlt⟩ := hM.2.2.1.blk_lt (by rintro rfl; simp at hn0)
  have og := og.mono hM.2.2.2.2
  have hHb : ∀ j b, j < hs.length → Fw.blk (Hj hs j) = some b → b < gsb ∧ Fw.blk rows ≠ some b := fun j b hj hb => by
    rw [← Hj_eq hj] at hb
    have := ((hM.2.1 j hj).blk b hb).2
    exact ⟨by omega, hap.list j hj b hb⟩
  have hM : Rof B F rows hs R w0 := ⟨hM.1, fun i hi => (hM.2.1 i hi).up hB, hM.2.2.1.up hB, hF.up _ _ hM.2.2.2.1 hB, Nat.le_trans hM.2.2.2.2 hB.size⟩
  have hDgs : D gsb := hDn gsb hgsz
  simp (maxSteps := 1000000) (disch := omega) only [WS, List.getElem_cons_zero, List.getElem_cons_succ, Option.isNone_some, Option.isNone_none, List.getD_cons_zero, List.getD_cons_succ, I.at, atL, atO, atP, evp, evs, retV, ↓reduceIte, Nat.reduceEqDiff, reduceCtorEq, AS]
  refine loop_of (fun t w' => t 0 = rows ∧ t 3 = gs ∧ ∃ (i : Nat) (R' : List (List (El 16))) (G : List Hd), t 4 = .int .i64 (i : Int) ∧ i ≤ hs.length ∧ Rof B F rows hs R' w' ∧ Ow B w' gs G ∧ G.length = hs.length ∧ (∀ j, j < i → Hj G j = Hj hs j) ∧ gsb < w'.heap.size ∧ (∀ j, j < hs.length → (R'.getD j []).length = (R.getD j []).length) ∧ ∀ j, j < i → R'.getD j [] = List.replicate (R.getD j []).length (eN (2 * j)))
    (fun t _ => hs.length - (toI (t 4)).toNat) ⟨by simp only [WS, List.getElem_cons_zero, List.getElem_cons_succ, Option.isNone_some, Option.isNone_none, List.getD_cons_zero, List.getD_cons_succ, I.at, atL, atO, atP, evp, evs, retV, ↓reduceIte, Nat.reduceEqDiff, reduceCtorEq], by simp only [WS, List.getElem_cons_zero, List.getElem_cons_succ, Option.isNone_some, Option.isNone_none, List.getD_cons_zero, List.getD_cons_succ, I.at, atL, atO, atP, evp, evs, retV, ↓reduceIte, Nat.reduceEqDiff, reduceCtorEq], 0, R, _, rfl, by omega, hM, og, by simp, fun j hj => by omega, hgbl, fun _ _ => rfl, fun j hj => by omega⟩ ?_
  clear hM og hgbl
  rintro t w1 ⟨t0, t3, i, R', G, t4, hi, hM, og, hGl, hGv, hgbl, hlen, hdone⟩
  by_cases hil : i < hs.length
  · have hl := hM.1
    have hlenI := hlen i hil
    have hni0 := hne i hil
    have hF1 : Frm (fun w => F w ∧ Ow B w gs G) (fun b => D b ∧ b ≠ gsb) := ⟨fun w1 w2 b h hd hg => ⟨hF.gr _ _ b h.1 hd.1 hg, h.2.grown hg (by rw [hgb]; intro e; cases e; exact hd.2 rfl)⟩, fun w1 w2 h hB => ⟨hF.up _ _ h.1 hB, h.2.up hB⟩⟩
    have hD1 : ∀ i (hi : i < hs.length) b, Fw.blk (Cell.v hs[i]) = some b → D b ∧ b ≠ gsb := fun i hi b hb => ⟨hD i hi b hb, fun e => by rw [Hj_eq hi] at hb; have := (hHb i b hi hb).1; omega⟩
    have W := (Rof.rws (α := El 16) (B := B) hap hF1 hD1).wr R' i hil hl
    have hM1 : Rof B (fun w => F w ∧ Ow B w gs G) rows hs R' w1 := ⟨hM.1, hM.2.1, hM.2.2.1, ⟨hM.2.2.2.1, og⟩, hM.2.2.2.2⟩
    simp (maxSteps := 1000000) (disch := omega) only [WS, List.getElem_cons_zero, List.getElem_cons_succ, Option.isNone_some, Option.isNone_none, List.getD_cons_zero, List.getD_cons_succ, I.at, atL, atO, atP, evp, evs, retV, ↓reduceIte, Nat.reduceEqDiff, reduceCtorEq, AS, t0, t3, t4, hM.2.2.1.Xlen]
    refine loop_of (fun t w' => t 0 = rows ∧ t 3 = gs ∧ t 4 = .int .i64 (i : Int) ∧ ∃ (j : Nat) (a : List (El 16)), t 5 = .int .i64 (j : Int) ∧ j ≤ a.length ∧ Rof B (fun w => F w ∧ Ow B w gs G) rows hs (R'.set i a) w' ∧ gsb < w'.heap.size ∧ a.length = (R.getD i []).length ∧ ∀ x, x < j → (co a).c x = eN (2 * i))
      (fun t _ => (R.getD i []).length - (toI (t 5)).toNat) ⟨by simp only [WS, List.getElem_cons_zero, List.getElem_cons_succ, Option.isNone_some, Option.isNone_none, List.getD_cons_zero, List.getD_cons_succ, I.at, atL, atO, atP, evp, evs, retV, ↓reduceIte, Nat.reduceEqDiff, reduceCtorEq]; exact t0, by simp only [WS, List.getElem_cons_zero, List.getElem_cons_succ, Option.isNone_some, Option.isNone_none, List.getD_cons_zero, List.getD_cons_succ, I.at, atL, atO, atP, evp, evs, retV, ↓reduceIte, Nat.reduceEqDiff, reduceCtorEq]; exact t3, by simp only [WS, List.getElem_cons_zero, List.getElem_cons_succ, Option.isNone_some, Option.isNone_none, List.getD_cons_zero, List.getD_cons_succ, I.at, atL, atO, atP, evp, evs, retV, ↓reduceIte, Nat.reduceEqDiff, reduceCtorEq]; exact t4, 0, R'.getD i [], rfl, by omega, by rw [show R'.set i (R'.getD i []) = R' by rw [List.getD_eq_getElem?_getD, List.getElem?_eq_getElem (by omega)]; simp]; exact hM1, hgbl, hlenI, fun x hx => by omega⟩ ?_
    clear t0 t3 t4 hM hM1 og hgbl
    rintro t w2 ⟨t0, t3, t4, j, a, t5, hj, hM, hgbl, ha, hav⟩
    have hrl := hM.2.2.1
    have hai := (hM.2.1 i hil).sl
    rw [getD_setL R' (by omega), if_pos rfl] at hai
    by_cases hja : j < a.length
    · have e1 : IntKind.u16.wrap ((2 * i : Nat) : Int) = ((eN (2 * i)).v.toNat : Int) := by rw [wrap_u16 _ (by omega), eN_v _ (by omega)]
      simp (maxSteps := 1000000) (disch := omega) only [WS, List.getElem_cons_zero, List.getElem_cons_succ, Option.isNone_some, Option.isNone_none, List.getD_cons_zero, List.getD_cons_succ, I.at, atL, atO, atP, evp, evs, retV, ↓reduceIte, Nat.reduceEqDiff, reduceCtorEq, AS, t0, t3, t4, t5, hrl.Xix hil, hrl.Xld hil, hai.Xlen, e1, hai.Xix hja]
      refine W.Xst hM hja (eN (2 * i)) fun w3 hM3 hg3 => ?_
      simp (maxSteps := 1000000) (disch := omega) only [WS, List.getElem_cons_zero, List.getElem_cons_succ, Option.isNone_some, Option.isNone_none, List.getD_cons_zero, List.getD_cons_succ, I.at, atL, atO, atP, evp, evs, retV, ↓reduceIte, Nat.reduceEqDiff, reduceCtorEq, AS, t0, t3, t4, t5]
      refine ⟨⟨j + 1, _, rfl, by simp; omega, hM3, Nat.lt_of_lt_of_le hgbl hg3.size, by simp [ha], fun x hx => ?_⟩, by omega⟩
      rw [co_set _ hja]
      by_cases hxj : x = j
      · rw [if_pos hxj]
      · rw [if_neg hxj]; exact hav x (by omega)
    · obtain ⟨hMl, hMo, hMr, ⟨hMF, og⟩, hMs⟩ := hM
      have iG : i < G.length := by omega
      simp (maxSteps := 1000000) (disch := omega) only [WS, List.getElem_cons_zero, List.getElem_cons_succ, Option.isNone_some, Option.isNone_none, List.getD_cons_zero, List.getD_cons_succ, I.at, atL, atO, atP, evp, evs, retV, ↓reduceIte, Nat.reduceEqDiff, reduceCtorEq, AS, t0, t3, t4, t5, hrl.Xix hil, hrl.Xld hil, hai.Xlen, og.sl.Xix iG]
      refine og.Xst iG hs[i] fun w3 og3 hg3 => ?_
      rw [hgb] at hg3
      have hMo3 : ∀ x (hx : x < hs.length), Ow B w3 (Cell.v hs[x]) ((R'.set i a).getD x []) := fun x hx => (hMo x hx).grown hg3 (by rw [Hj_eq hx]; intro e; have := (hHb x gsb hx e).1; omega)
      have hMr3 : Sl w3 rows hs := hMr.grown hg3 (Or.inl (by rw [hrb]; intro e; cases e; omega))
      simp (maxSteps := 1000000) (disch := omega) only [WS, List.getElem_cons_zero, List.getElem_cons_succ, Option.isNone_some, Option.isNone_none, List.getD_cons_zero, List.getD_cons_succ, I.at, atL, atO, atP, evp, evs, retV, ↓reduceIte, Nat.reduceEqDiff, reduceCtorEq, AS, t0, t3, t4, t5]
      refine ⟨⟨i + 1, R'.set i a, G.set i hs[i], rfl, by omega, ⟨hMl, hMo3, hMr3, hF.gr _ _ gsb hMF hDgs hg3, Nat.le_trans hMs hg3.size⟩, og3, by simpa using hGl, fun x hx => ?_, Nat.lt_of_lt_of_le hgbl hg3.size, fun x hx => ?_, fun x hx => ?_⟩, by omega⟩
      · rw [Hj_set iG]
        by_cases hxi : x = i
        · rw [if_pos hxi, hxi, Hj_eq hil]
        · rw [if_neg hxi]; exact hGv x (by omega)
      · rw [getD_setL R' (by omega)]
        by_cases hxi : x = i
        · rw [if_pos hxi, ha, hxi]
        · rw [if_neg hxi]; exact hlen x hx
      · rw [getD_setL R' (by omega)]
        by_cases hxi : x = i
        · rw [if_pos hxi, hxi]; exact rep_of ha fun y hy => hav y (by omega)
        · rw [if_neg hxi]; exact hdone x (by omega)
  obtain rfl : i = hs.length := by omega
  obtain ⟨hl, hO, hrl, hbel, hsz⟩ := hM
  have hOj : ∀ j, j < hs.length → Ow B w1 (Hj hs j) (R'.getD j []) := fun j hj => by rw [← Hj_eq hj]; exact hO j hj
  have hDH : ∀ j b, j < hs.length → Fw.blk (Hj hs j) = some b → D b := fun j b hj hb => hD j hj b (by rw [Hj_eq hj]; exact hb)
  have hDg : ∀ b, gsb ≤ b → D b := fun b hb => hDn b (by omega)
  have G0 : Gr (α := El 16) B F rows gsb hs (fun j => Hj hs j) (fun j => R'.getD j []) (fun j => R'.getD j [] ++ List.replicate (if j < 0 then 300 else if j = 0 then 0 else 0) (eN (2 * j + 1))) w1 := by
    have hif : ∀ j, (if j < 0 then 300 else if j = 0 then 0 else 0) = 0 := fun j => by rw [if_neg (by omega)]; split <;> rfl
    refine ⟨hrl, fun j hj => (hOj j hj).sl, fun j hj => by rw [hif]; simpa using hOj j hj, fun j hj => ⟨_, rfl⟩, fun j hj hR => (hOj j hj).shape hR, hHb, fun b hb => by rw [hrb] at hb; cases hb; omega, fun j b hj hb => Or.inl hb, fun j m b hj hm hjm hb => ?_, fun j m b hj hm hjm hb => ?_, hbel, hsz, hgbl⟩
    · rw [← Hj_eq hj] at hb; rw [← Hj_eq hm]; exact hap.two j m hj hm b hjm hb
    · rw [← Hj_eq hj] at hb; rw [← Hj_eq hm]; exact hap.two j m hj hm b hjm hb
  simp (maxSteps := 1000000) (disch := omega) only [WS, List.getElem_cons_zero, List.getElem_cons_succ, Option.isNone_some, Option.isNone_none, List.getD_cons_zero, List.getD_cons_succ, I.at, atL, atO, atP, evp, evs, retV, ↓reduceIte, Nat.reduceEqDiff, reduceCtorEq, AS, t0, t3, t4, hrl.Xlen]
  refine loop_of (fun t w' => t 0 = rows ∧ t 3 = gs ∧ ∃ (i : Nat) (G : List Hd) (Gv : Nat → Value), t 6 = .int .i64 (i : Int) ∧ i ≤ hs.length ∧ Ow B w' gs G ∧ G.length = hs.length ∧ (∀ j, j < hs.length → Hj G j = Gv j) ∧ Gr (α := El 16) B F rows gsb hs Gv (fun j => R'.getD j []) (fun j => R'.getD j [] ++ List.replicate (if j < i then 300 else if j = i then 0 else 0) (eN (2 * j + 1))) w')
    (fun t _ => hs.length - (toI (t 6)).toNat) ⟨by simp only [WS, List.getElem_cons_zero, List.getElem_cons_succ, Option.isNone_some, Option.isNone_none, List.getD_cons_zero, List.getD_cons_succ, I.at, atL, atO, atP, evp, evs, retV, ↓reduceIte, Nat.reduceEqDiff, reduceCtorEq]; exact t0, by simp only [WS, List.getElem_cons_zero, List.getElem_cons_succ, Option.isNone_some, Option.isNone_none, List.getD_cons_zero, List.getD_cons_succ, I.at, atL, atO, atP, evp, evs, retV, ↓reduceIte, Nat.reduceEqDiff, reduceCtorEq]; exact t3, 0, G, _, rfl, by omega, og, hGl, hGv, G0⟩ ?_
  clear t0 t3 t4 G0 og hGl hGv hgbl hbel hsz hrl hO hOj
  rintro t w3 ⟨t0, t3, i, G, Gv, t6, hi, og, hGl, hGv, hG⟩
  by_cases hil : i < hs.length
  · have hli := hlen i hil
    have hni := hne i hil
    simp (maxSteps := 1000000) (disch := omega) only [WS, List.getElem_cons_zero, List.getElem_cons_succ, Option.isNone_some, Option.isNone_none, List.getD_cons_zero, List.getD_cons_succ, I.at, atL, atO, atP, evp, evs, retV, ↓reduceIte, Nat.reduceEqDiff, reduceCtorEq, AS, t0, t3, t6, hG.rl.Xlen]
    refine loop_of (fun t w' => t 0 = rows ∧ t 3 = gs ∧ t 6 = .int .i64 (i : Int) ∧ ∃ (c : Nat) (G : List Hd) (Gv : Nat → Value), t 7 = .int .i64 (c : Int) ∧ c ≤ 300 ∧ Ow B w' gs G ∧ G.length = hs.length ∧ (∀ j, j < hs.length → Hj G j = Gv j) ∧ Gr (α := El 16) B F rows gsb hs Gv (fun j => R'.getD j []) (fun j => R'.getD j [] ++ List.replicate (if j < i then 300 else if j = i then c else 0) (eN (2 * j + 1))) w')
      (fun t _ => 300 - (toI (t 7)).toNat) ⟨by simp only [WS, List.getElem_cons_zero, List.getElem_cons_succ, Option.isNone_some, Option.isNone_none, List.getD_cons_zero, List.getD_cons_succ, I.at, atL, atO, atP, evp, evs, retV, ↓reduceIte, Nat.reduceEqDiff, reduceCtorEq]; exact t0, by simp only [WS, List.getElem_cons_zero, List.getElem_cons_succ, Option.isNone_some, Option.isNone_none, List.getD_cons_zero, List.getD_cons_succ, I.at, atL, atO, atP, evp, evs, retV, ↓reduceIte, Nat.reduceEqDiff, reduceCtorEq]; exact t3, by simp only [WS, List.getElem_cons_zero, List.getElem_cons_succ, Option.isNone_some, Option.isNone_none, List.getD_cons_zero, List.getD_cons_succ, I.at, atL, atO, atP, evp, evs, retV, ↓reduceIte, Nat.reduceEqDiff, reduceCtorEq]; exact t6, 0, G, Gv, rfl, by omega, og, hGl, hGv, hG⟩ ?_
    clear t0 t3 t6 hG og hGl hGv
    rintro t w4 ⟨t0, t3, t6, c, G, Gv, t7, hc, og, hGl, hGv, hG⟩
    by_cases hlt : c < 300
    · have iG : i < G.length := by omega
      have e2 : IntKind.u16.wrap ((2 * i + 1 : Nat) : Int) = ((eN (2 * i + 1)).v.toNat : Int) := by rw [wrap_u16 _ (by omega), eN_v _ (by omega)]
      have hgi : Cell.v G[i] = Gv i := by rw [Hj_eq iG]; exact hGv i hil
      simp (maxSteps := 1000000) (disch := omega) only [WS, List.getElem_cons_zero, List.getElem_cons_succ, Option.isNone_some, Option.isNone_none, List.getD_cons_zero, List.getD_cons_succ, I.at, atL, atO, atP, evp, evs, retV, ↓reduceIte, Nat.reduceEqDiff, reduceCtorEq, AS, t0, t3, t6, t7, og.sl.Xix iG, og.sl.Xld iG, hgi, e2]
      refine X_bsl (zs := [eN (2 * i + 1)]) (by rfl) (by rfl) fun e3 w5 o3 hB => ?_
      have hG := hG.up hF hB
      have og := og.up hB
      have hcur := hG.gr i hil
      have hif : (if i < i then 300 else if i = i then c else 0) = c := by rw [if_neg (by omega), if_pos rfl]
      rw [hif] at hcur
      simp (maxSteps := 1000000) (disch := omega) only [WS, List.getElem_cons_zero, List.getElem_cons_succ, Option.isNone_some, Option.isNone_none, List.getD_cons_zero, List.getD_cons_succ, I.at, atL, atO, atP, evp, evs, retV, ↓reduceIte, Nat.reduceEqDiff, reduceCtorEq, AS, t0, t3, t6, t7]
      refine Ow.Xapp2 hcur o3.sl hG.sz (by simp only [List.length_append, List.length_replicate, List.length_cons, List.length_nil, maxBytes]; omega) (by simp only [List.length_append, List.length_replicate, List.length_cons, List.length_nil]; omega) fun g' w6 og' hgr => ?_
      have hG6 := hG.app (i := i) (g' := g') (m := [eN (2 * i + 1)]) hF hDH hDg hil (by rw [hif]; exact og') hgr
      have hgsne : ∀ b, Fw.blk gs = some b → Fw.blk (Gv i) ≠ some b := fun b hb e => by
        rw [hgb] at hb; cases hb
        rcases hG.gk i gsb hil e with h1 | h1
        · have := (hHb i gsb hil h1).1; omega
        · omega
      have og6 := og.keep hgr.keep hgsne
      obtain ⟨x, rfl⟩ : ∃ x : Hd, g' = Cell.v x := ⟨hd g', og'.sl.hd.1.symm⟩
      simp (maxSteps := 1000000) (disch := omega) only [WS, List.getElem_cons_zero, List.getElem_cons_succ, Option.isNone_some, Option.isNone_none, List.getD_cons_zero, List.getD_cons_succ, I.at, atL, atO, atP, evp, evs, retV, ↓reduceIte, Nat.reduceEqDiff, reduceCtorEq, AS, t0, t3, t6, t7, og6.sl.Xix iG]
      refine og6.Xst iG x fun w7 og7 hg7 => ?_
      rw [hgb] at hg7
      have hG7 := hG6.st hF hDgs hg7
      simp (maxSteps := 1000000) (disch := omega) only [WS, List.getElem_cons_zero, List.getElem_cons_succ, Option.isNone_some, Option.isNone_none, List.getD_cons_zero, List.getD_cons_succ, I.at, atL, atO, atP, evp, evs, retV, ↓reduceIte, Nat.reduceEqDiff, reduceCtorEq, AS, t0, t3, t6, t7]
      refine ⟨⟨c + 1, G.set i x, fun j => if j = i then Cell.v x else Gv j, rfl, by omega, og7, by simpa using hGl, fun j hj => ?_, ?_⟩, by omega⟩
      · show _ = if j = i then Cell.v x else Gv j
        rw [Hj_set iG]
        by_cases hji : j = i
        · rw [if_pos hji, if_pos hji]
        · rw [if_neg hji, if_neg hji]; exact hGv j hj
      · have hE : (fun j => if j = i then (R'.getD i [] ++ List.replicate (if i < i then 300 else if i = i then c else 0) (eN (2 * i + 1))) ++ [eN (2 * i + 1)] else R'.getD j [] ++ List.replicate (if j < i then 300 else if j = i then c else 0) (eN (2 * j + 1))) = fun j => R'.getD j [] ++ List.replicate (if j < i then 300 else if j = i then c + 1 else 0) (eN (2 * j + 1)) := by
          funext j
          by_cases hji : j = i
          · subst hji
            rw [if_pos rfl, hif, List.append_assoc, ← List.replicate_succ', if_neg (by omega), if_pos rfl]
          · rw [if_neg hji, if_neg hji, if_neg hji]
        rw [hE] at hG7
        exact hG7
    · obtain rfl : c = 300 := by omega
      simp (maxSteps := 1000000) (disch := omega) only [WS, List.getElem_cons_zero, List.getElem_cons_succ, Option.isNone_some, Option.isNone_none, List.getD_cons_zero, List.getD_cons_succ, I.at, atL, atO, atP, evp, evs, retV, ↓reduceIte, Nat.reduceEqDiff, reduceCtorEq, AS, t0, t3, t6, t7, show decide (((300 : Nat) : Int) < 300) = false from rfl]
      refine ⟨⟨i + 1, G, Gv, rfl, by omega, og, hGl, hGv, ?_⟩, by omega⟩
      have hE : (fun j => R'.getD j [] ++ List.replicate (if j < i then 300 else if j = i then 300 else 0) (eN (2 * j + 1))) = fun j => R'.getD j [] ++ List.replicate (if j < i + 1 then 300 else if j = i + 1 then 0 else 0) (eN (2 * j + 1)) := by
        funext j
        by_cases hji : j < i
        · rw [if_pos hji, if_pos (by omega)]
        · rw [if_neg hji]
          by_cases hj2 : j = i
          · rw [if_pos hj2, if_pos (by omega)]
          · rw [if_neg hj2, if_neg (by omega)]; split <;> rfl
      rw [hE] at hG
      exact hG
  · obtain rfl : i = hs.length := by omega
    simp (maxSteps := 1000000) (disch := omega) only [WS, List.getElem_cons_zero, List.getElem_cons_succ, Option.isNone_some, Option.isNone_none, List.getD_cons_zero, List.getD_cons_succ, I.at, atL, atO, atP, evp, evs, retV, ↓reduceIte, Nat.reduceEqDiff, reduceCtorEq, AS, t0, t3, t6, hG.rl.Xlen]
    refine loop_of (fun t w' => t 0 = rows ∧ t 3 = gs ∧ w' = w3 ∧ ∃ i : Nat, t 8 = .int .i64 (i : Int) ∧ i ≤ hs.length) (fun t _ => hs.length - (toI (t 8)).toNat) ⟨by simp only [WS, List.getElem_cons_zero, List.getElem_cons_succ, Option.isNone_some, Option.isNone_none, List.getD_cons_zero, List.getD_cons_succ, I.at, atL, atO, atP, evp, evs, retV, ↓reduceIte, Nat.reduceEqDiff, reduceCtorEq]; exact t0, by simp only [WS, List.getElem_cons_zero, List.getElem_cons_succ, Option.isNone_some, Option.isNone_none, List.getD_cons_zero, List.getD_cons_succ, I.at, atL, atO, atP, evp, evs, retV, ↓reduceIte, Nat.reduceEqDiff, reduceCtorEq]; exact t3, rfl, 0, rfl, by omega⟩ ?_
    clear t0 t3 t6
    rintro t w' ⟨t0, t3, rfl, i, t8, hi⟩
    by_cases hil : i < hs.length
    · have e1 := Hj_eq hil
      have iG : i < G.length := by omega
      have e2 : Cell.v G[i] = Gv i := by rw [Hj_eq iG]; exact hGv i hil
      have hH := hG.hr i hil
      have hGi := (hG.gr i hil).sl
      have hli := hlen i hil
      have hni := hne i hil
      have hdi := hdone i hil
      rw [if_pos hil] at hGi
      simp only [hdi] at hH hGi
      generalize hnl : (R.getD i []).length = n at *
      have ln1 : (List.replicate n (eN (2 * i))).length = n := List.length_replicate
      have ln2 : (List.replicate n (eN (2 * i)) ++ List.replicate 300 (eN (2 * i + 1))).length = n + 300 := by simp
      simp (maxSteps := 1000000) (disch := omega) only [WS, List.getElem_cons_zero, List.getElem_cons_succ, Option.isNone_some, Option.isNone_none, List.getD_cons_zero, List.getD_cons_succ, I.at, atL, atO, atP, evp, evs, retV, ↓reduceIte, Nat.reduceEqDiff, reduceCtorEq, AS, t0, t3, t8, hG.rl.Xlen]
      refine loop_of (fun t w2 => t 0 = rows ∧ t 3 = gs ∧ t 8 = .int .i64 (i : Int) ∧ w2 = w' ∧ ∃ j : Nat, t 9 = .int .i64 (j : Int) ∧ j ≤ n + 300) (fun t _ => n + 300 - (toI (t 9)).toNat) ⟨by simp only [WS, List.getElem_cons_zero, List.getElem_cons_succ, Option.isNone_some, Option.isNone_none, List.getD_cons_zero, List.getD_cons_succ, I.at, atL, atO, atP, evp, evs, retV, ↓reduceIte, Nat.reduceEqDiff, reduceCtorEq]; exact t0, by simp only [WS, List.getElem_cons_zero, List.getElem_cons_succ, Option.isNone_some, Option.isNone_none, List.getD_cons_zero, List.getD_cons_succ, I.at, atL, atO, atP, evp, evs, retV, ↓reduceIte, Nat.reduceEqDiff, reduceCtorEq]; exact t3, by simp only [WS, List.getElem_cons_zero, List.getElem_cons_succ, Option.isNone_some, Option.isNone_none, List.getD_cons_zero, List.getD_cons_succ, I.at, atL, atO, atP, evp, evs, retV, ↓reduceIte, Nat.reduceEqDiff, reduceCtorEq]; exact t8, rfl, 0, rfl, by omega⟩ ?_
      clear t0 t3 t8
      rintro t w2 ⟨t0, t3, t8, rfl, j, t9, hj⟩
      by_cases hjn : j < n + 300
      · have i2 : j < (List.replicate n (eN (2 * i)) ++ List.replicate 300 (eN (2 * i + 1))).length := by omega
        have f1 : IntKind.u16.wrap ((2 * i : Nat) : Int) = ((eN (2 * i)).v.toNat : Int) := by rw [wrap_u16 _ (by omega), eN_v _ (by omega)]
        have f2 : IntKind.u16.wrap ((2 * i + 1 : Nat) : Int) = ((eN (2 * i + 1)).v.toNat : Int) := by rw [wrap_u16 _ (by omega), eN_v _ (by omega)]
        have g1 : (!decide (((eN (2 * i)).v.toNat : Int) = ((eN (2 * i)).v.toNat : Int))) = false := by rw [decide_eq_true rfl]; rfl
        have g2 : (!decide (((eN (2 * i + 1)).v.toNat : Int) = ((eN (2 * i + 1)).v.toNat : Int))) = false := by rw [decide_eq_true rfl]; rfl
        by_cases hjl : j < n
        · have i1 : j < (List.replicate n (eN (2 * i))).length := by omega
          have v1 : (List.replicate n (eN (2 * i)))[j] = eN (2 * i) := by simp
          have v2 : (List.replicate n (eN (2 * i)) ++ List.replicate 300 (eN (2 * i + 1)))[j] = eN (2 * i) := by rw [List.getElem_append_left i1, List.getElem_replicate]
          simp (maxSteps := 1000000) (disch := omega) only [WS, List.getElem_cons_zero, List.getElem_cons_succ, Option.isNone_some, Option.isNone_none, List.getD_cons_zero, List.getD_cons_succ, I.at, atL, atO, atP, evp, evs, retV, ↓reduceIte, Nat.reduceEqDiff, reduceCtorEq, AS, t0, t3, t8, t9, og.sl.Xix iG, og.sl.Xld iG, e2, hGi.Xlen, ln2, hG.rl.Xix hil, hG.rl.Xld hil, e1, hH.Xlen, ln1, hH.Xix i1, hH.Xld i1, v1, cell_e16, f1, g1, hGi.Xix i2, hGi.Xld i2, v2]
          exact ⟨⟨j + 1, rfl, by omega⟩, by omega⟩
        · have v2 : (List.replicate n (eN (2 * i)) ++ List.replicate 300 (eN (2 * i + 1)))[j] = eN (2 * i + 1) := by rw [List.getElem_append_right (by rw [List.length_replicate]; omega), List.getElem_replicate]
          simp (maxSteps := 1000000) (disch := omega) only [WS, List.getElem_cons_zero, List.getElem_cons_succ, Option.isNone_some, Option.isNone_none, List.getD_cons_zero, List.getD_cons_succ, I.at, atL, atO, atP, evp, evs, retV, ↓reduceIte, Nat.reduceEqDiff, reduceCtorEq, AS, t0, t3, t8, t9, og.sl.Xix iG, og.sl.Xld iG, e2, hGi.Xlen, ln2, hG.rl.Xix hil, hG.rl.Xld hil, e1, hH.Xlen, ln1, cell_e16, f2, g2, hGi.Xix i2, hGi.Xld i2, v2]
          exact ⟨⟨j + 1, rfl, by omega⟩, by omega⟩
      · simp (maxSteps := 1000000) (disch := omega) only [WS, List.getElem_cons_zero, List.getElem_cons_succ, Option.isNone_some, Option.isNone_none, List.getD_cons_zero, List.getD_cons_succ, I.at, atL, atO, atP, evp, evs, retV, ↓reduceIte, Nat.reduceEqDiff, reduceCtorEq, AS, t0, t3, t8, t9, og.sl.Xix iG, og.sl.Xld iG, e2, hGi.Xlen, ln2]
        exact ⟨⟨i + 1, rfl, by omega⟩, by omega⟩
    · simp (maxSteps := 1000000) (disch := omega) only [WS, List.getElem_cons_zero, List.getElem_cons_succ, Option.isNone_some, Option.isNone_none, List.getD_cons_zero, List.getD_cons_succ, I.at, atL, atO, atP, evp, evs, retV, ↓reduceIte, Nat.reduceEqDiff, reduceCtorEq, AS, t0, t3, t8, hG.rl.Xlen]
      exact hG.fr
end Go.Proofs.Ytcnabolainmaeaa.Fw
