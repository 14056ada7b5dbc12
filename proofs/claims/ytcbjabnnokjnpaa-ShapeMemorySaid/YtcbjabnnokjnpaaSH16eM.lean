import Derived.Test.YtcbjabnnokjnpaaProg
import Derived.Test.YtcbjabnnokjnpaaFwTM
import Derived.Test.YtcbjabnnokjnpaaSH16dM
import Derived.Test.YtcbjabnnokjnpaaFwSgM
import Derived.Test.YtcbjabnnokjnpaaGfPM
set_option linter.all false
set_option linter.unusedVariables false
set_option linter.unusedSimpArgs false
set_option maxRecDepth 100000
set_option maxHeartbeats 1000000
namespace Go.Proofs.Ytcbjabnnokjnpaa.Fw
open Go Go.Fw Go.Proofs
attribute [local irreducible] stepI
def c_culletlaw16_apart : C := .seq (.ops [⟨0, (some 2), none, .mov (.c (.bool false)), []⟩]) (.seq (.ops [⟨0, (some 10), none, .mov (.t 0), []⟩, ⟨1, (some 11), none, .len (.t 10), []⟩, ⟨2, (some 12), none, .mks 27 24 [.slice none 0 0] (.t 11) (.t 11), []⟩, ⟨3, (some 3), none, .mov (.t 12), []⟩]) (.seq (.seq (.ops [⟨0, (some 4), none, .mov (.c (.int .i64 0)), []⟩]) (.block 0 (.loop (.seq (.seq (.ops [⟨0, (some 13), none, .mov (.t 4), []⟩, ⟨1, (some 14), none, .mov (.t 0), []⟩, ⟨2, (some 15), none, .len (.t 14), []⟩, ⟨3, (some 16), none, .bin .lss (.t 13) (.t 15), []⟩]) (.ite (.t 16) .skip (.exit 0))) (.seq (.block 1 (.seq (.seq (.ops [⟨0, (some 5), none, .mov (.c (.int .i64 0)), []⟩]) (.block 2 (.loop (.seq (.seq (.ops [⟨0, (some 19), none, .mov (.t 5), []⟩, ⟨1, (some 20), none, .mov (.t 0), []⟩, ⟨2, (some 21), none, .mov (.t 4), []⟩, ⟨3, (some 22), none, .ixs 1 (.t 20) (.t 21), []⟩, ⟨4, (some 23), none, .ld (.t 22), []⟩, ⟨5, (some 24), none, .len (.t 23), []⟩, ⟨6, (some 25), none, .bin .lss (.t 19) (.t 24), []⟩]) (.ite (.t 25) .skip (.exit 2))) (.seq (.block 3 (.ops [⟨0, (some 28), none, .mov (.t 0), []⟩, ⟨1, (some 29), none, .mov (.t 4), []⟩, ⟨2, (some 30), none, .ixs 1 (.t 28) (.t 29), []⟩, ⟨3, (some 31), none, .ld (.t 30), []⟩, ⟨4, (some 32), none, .mov (.t 5), []⟩, ⟨5, (some 33), none, .mov (.t 4), []⟩, ⟨6, (some 34), none, .cnv .u8 (.t 33), []⟩, ⟨7, (some 35), none, .ixs 1 (.t 31) (.t 32), []⟩, ⟨8, none, none, .st (.t 35) (.t 34), []⟩])) (.ops [⟨0, (some 26), none, .mov (.t 5), []⟩, ⟨1, (some 27), none, .bin .add (.t 26) (.c (.int .i64 1)), []⟩, ⟨2, (some 5), none, .mov (.t 27), []⟩])))))) (.ops [⟨0, (some 36), none, .mov (.t 3), []⟩, ⟨1, (some 37), none, .mov (.t 4), []⟩, ⟨2, (some 38), none, .mov (.t 0), []⟩, ⟨3, (some 39), none, .mov (.t 4), []⟩, ⟨4, (some 40), none, .ixs 1 (.t 38) (.t 39), []⟩, ⟨5, (some 41), none, .ld (.t 40), []⟩, ⟨6, (some 42), none, .ixs 1 (.t 36) (.t 37), []⟩, ⟨7, none, none, .st (.t 42) (.t 41), []⟩]))) (.ops [⟨0, (some 17), none, .mov (.t 4), []⟩, ⟨1, (some 18), none, .bin .add (.t 17) (.c (.int .i64 1)), []⟩, ⟨2, (some 4), none, .mov (.t 18), []⟩])))))) (.seq (.seq (.ops [⟨0, (some 6), none, .mov (.c (.int .i64 0)), []⟩]) (.block 4 (.loop (.seq (.seq (.ops [⟨0, (some 43), none, .mov (.t 6), []⟩, ⟨1, (some 44), none, .mov (.t 0), []⟩, ⟨2, (some 45), none, .len (.t 44), []⟩, ⟨3, (some 46), none, .bin .lss (.t 43) (.t 45), []⟩]) (.ite (.t 46) .skip (.exit 4))) (.seq (.block 5 (.seq (.ops [⟨0, (some 7), none, .mov (.c (.int .i64 0)), []⟩]) (.block 6 (.loop (.seq (.seq (.ops [⟨0, (some 49), none, .mov (.t 7), []⟩, ⟨1, (some 50), none, .bin .lss (.t 49) (.c (.int .i64 70)), []⟩]) (.ite (.t 50) .skip (.exit 6))) (.seq (.block 7 (.ops [⟨0, (some 53), none, .mov (.t 3), []⟩, ⟨1, (some 54), none, .mov (.t 6), []⟩, ⟨2, (some 55), none, .mov (.t 3), []⟩, ⟨3, (some 56), none, .mov (.t 6), []⟩, ⟨4, (some 57), none, .ixs 1 (.t 55) (.t 56), []⟩, ⟨5, (some 58), none, .ld (.t 57), []⟩, ⟨6, (some 59), none, .mov (.t 6), []⟩, ⟨7, (some 60), none, .cnv .u8 (.t 59), []⟩, ⟨8, (some 61), none, .bsl 5 1 [.int .u8 0] [(0, (1, .t 60))], []⟩, ⟨9, (some 62), none, .app 5 1 [.int .u8 0] (.t 58) (.t 61), []⟩, ⟨10, (some 63), none, .ixs 1 (.t 53) (.t 54), []⟩, ⟨11, none, none, .st (.t 63) (.t 62), []⟩])) (.ops [⟨0, (some 51), none, .mov (.t 7), []⟩, ⟨1, (some 52), none, .bin .add (.t 51) (.c (.int .i64 1)), []⟩, ⟨2, (some 7), none, .mov (.t 52), []⟩]))))))) (.ops [⟨0, (some 47), none, .mov (.t 6), []⟩, ⟨1, (some 48), none, .bin .add (.t 47) (.c (.int .i64 1)), []⟩, ⟨2, (some 6), none, .mov (.t 48), []⟩])))))) (.seq (.seq (.ops [⟨0, (some 8), none, .mov (.c (.int .i64 0)), []⟩]) (.block 8 (.loop (.seq (.seq (.ops [⟨0, (some 64), none, .mov (.t 8), []⟩, ⟨1, (some 65), none, .mov (.t 0), []⟩, ⟨2, (some 66), none, .len (.t 65), []⟩, ⟨3, (some 67), none, .bin .lss (.t 64) (.t 66), []⟩]) (.ite (.t 67) .skip (.exit 8))) (.seq (.block 9 (.seq (.ops [⟨0, (some 9), none, .mov (.c (.int .i64 0)), []⟩]) (.block 10 (.loop (.seq (.seq (.ops [⟨0, (some 70), none, .mov (.t 9), []⟩, ⟨1, (some 71), none, .mov (.t 3), []⟩, ⟨2, (some 72), none, .mov (.t 8), []⟩, ⟨3, (some 73), none, .ixs 1 (.t 71) (.t 72), []⟩, ⟨4, (some 74), none, .ld (.t 73), []⟩, ⟨5, (some 75), none, .len (.t 74), []⟩, ⟨6, (some 76), none, .bin .lss (.t 70) (.t 75), []⟩]) (.ite (.t 76) .skip (.exit 10))) (.seq (.block 11 (.seq (.ops [⟨0, (some 79), none, .mov (.t 9), []⟩, ⟨1, (some 80), none, .mov (.t 0), []⟩, ⟨2, (some 81), none, .mov (.t 8), []⟩, ⟨3, (some 82), none, .ixs 1 (.t 80) (.t 81), []⟩, ⟨4, (some 83), none, .ld (.t 82), []⟩, ⟨5, (some 84), none, .len (.t 83), []⟩, ⟨6, (some 85), none, .bin .lss (.t 79) (.t 84), []⟩, ⟨7, (some 86), none, .mov (.t 85), []⟩, ⟨8, (some 87), (some (86, true)), .mov (.t 0), []⟩, ⟨9, (some 88), (some (86, true)), .mov (.t 8), []⟩, ⟨10, (some 89), (some (86, true)), .ixs 1 (.t 87) (.t 88), []⟩, ⟨11, (some 90), (some (86, true)), .ld (.t 89), []⟩, ⟨12, (some 91), (some (86, true)), .mov (.t 9), []⟩, ⟨13, (some 92), (some (86, true)), .ixs 1 (.t 90) (.t 91), []⟩, ⟨14, (some 93), (some (86, true)), .ld (.t 92), []⟩, ⟨15, (some 94), (some (86, true)), .mov (.t 8), []⟩, ⟨16, (some 95), (some (86, true)), .cnv .u8 (.t 94), []⟩, ⟨17, (some 96), (some (86, true)), .bin .neq (.t 93) (.t 95), []⟩, ⟨18, (some 97), none, .pick (.t 86) (.t 96) (.c (.bool false)), []⟩, ⟨19, (some 98), none, .mov (.t 97), []⟩, ⟨20, (some 99), (some (98, false)), .mov (.t 3), []⟩, ⟨21, (some 100), (some (98, false)), .mov (.t 8), []⟩, ⟨22, (some 101), (some (98, false)), .ixs 1 (.t 99) (.t 100), []⟩, ⟨23, (some 102), (some (98, false)), .ld (.t 101), []⟩, ⟨24, (some 103), (some (98, false)), .mov (.t 9), []⟩, ⟨25, (some 104), (some (98, false)), .ixs 1 (.t 102) (.t 103), []⟩, ⟨26, (some 105), (some (98, false)), .ld (.t 104), []⟩, ⟨27, (some 106), (some (98, false)), .mov (.t 8), []⟩, ⟨28, (some 107), (some (98, false)), .cnv .u8 (.t 106), []⟩, ⟨29, (some 108), (some (98, false)), .bin .neq (.t 105) (.t 107), []⟩, ⟨30, (some 109), none, .pick (.t 98) (.c (.bool true)) (.t 108), []⟩]) (.ite (.t 109) (.seq (.ops [⟨0, (some 2), none, .mov (.c (.bool false)), []⟩]) .ret) .skip))) (.ops [⟨0, (some 77), none, .mov (.t 9), []⟩, ⟨1, (some 78), none, .bin .add (.t 77) (.c (.int .i64 1)), []⟩, ⟨2, (some 9), none, .mov (.t 78), []⟩]))))))) (.ops [⟨0, (some 68), none, .mov (.t 8), []⟩, ⟨1, (some 69), none, .bin .add (.t 68) (.c (.int .i64 1)), []⟩, ⟨2, (some 8), none, .mov (.t 69), []⟩])))))) (.seq (.ops [⟨0, (some 2), none, .mov (.c (.bool true)), []⟩]) .ret)))))
attribute [irreducible] c_culletlaw16_apart
theorem run_culletlaw16_apart {args : List Value} {w : World} {K : Value → World → Prop} (hn : args.length ≤ 110) (h : WP Try.prog c_culletlaw16_apart (endQ [.t 2] K) (initT args) w) : CallV Try.prog 23 args w K :=
  call_of follows Try.func23 (by kernel_rfl) (by kernel_rfl) hn h
end Go.Proofs.Ytcbjabnnokjnpaa.Fw
namespace Go.Proofs.Ytcbjabnnokjnpaa.Fw
open Go Go.Fw
theorem Hj_eq {hs : List Hd} {j : Nat} (h : j < hs.length) : Cell.v hs[j] = Hj hs j := (Hj_get h).symm
def m8 (n : Nat) : El 8 := ⟨BitVec.ofNat 8 n⟩
theorem m8_v (n : Nat) (h : n < 256) : (m8 n).v.toNat = n := by simp [m8]; omega
theorem rep_of {l : List (El 8)} {n : Nat} {x : El 8} (hl : l.length = n) (h : ∀ i, i < n → (co l).c i = x) : l = List.replicate n x :=
  co_ext (by simp [hl]) (Ps.ext fun i => by
    by_cases hi : i < n
    · rw [h i hi, co_get _ (by simpa using hi)]; simp
    · rw [co_dg l i (by omega), co_dg _ i (by simp; omega)])
set_option maxHeartbeats 8000000 in
theorem culletlaw16_apart_spec (w : World) (B : Nat) (F : World → Prop) (D : Nat → Prop) (rows : Value) (hs : List Hd) (R : List (List (El 8))) (hap : Apart rows hs) (hF : Frm F D) (hD : ∀ i (hi : i < hs.length) b, Fw.blk (Cell.v hs[i]) = some b → D b) (hDn : ∀ b, w.heap.size ≤ b → D b) (hM : Rof B F rows hs R w) (hne : ∀ j, j < hs.length → (R.getD j []).length ≤ 1000000) (hn0 : 0 < hs.length) (hn : hs.length ≤ 250) :
    CallV Try.prog 23 [rows] w fun v w' => v = .bool true ∧ F w' := by
  refine run_culletlaw16_apart (by simp) ?_
  simp only [c_culletlaw16_apart, WS, List.getElem_cons_zero, List.getElem_cons_succ, Option.isNone_some, Option.isNone_none, List.getD_cons_zero, List.getD_cons_succ, I.at, atL, atO, atP, evp, evs, retV, ↓reduceIte, Nat.reduceEqDiff, reduceCtorEq]
  simp (maxSteps := 1000000) (disch := omega) only [WS, List.getElem_cons_zero, List.getElem_cons_succ, Option.isNone_some, Option.isNone_none, List.getD_cons_zero, List.getD_cons_succ, I.at, atL, atO, atP, evp, evs, retV, ↓reduceIte, Nat.reduceEqDiff, reduceCtorEq, AS, hM.2.2.1.Xlen]
  refine X_mks (x := hdn) (by simp only [maxBytes]; omega) (by omega) fun gs w0 og hB => ?_
  obtain ⟨gsb, hgb, hgbl⟩ := og.sl.blk_lt (by intro e; have h := congrArg List.length e; rw [List.length_replicate] at h; have h2 : hs.length = 0 := h; omega)
  have hgsz : w.heap.size ≤ gsb := (og.blk gsb hgb).1
  obtain ⟨rb, hrb, hrlt⟩ := hM.2.2.1.blk_lt (by rintro rfl; simp at hn0)
  have og := og.mono hM.2.2.2.2
  have hHb : ∀ j b, j < hs.length → Fw.blk (Hj hs j) = some b → b < gsb ∧ Fw.blk rows ≠ some b := fun j b hj hb => by
    rw [← Hj_eq hj] at hb
    have := ((hM.2.1 j hj).blk b hb).2
    exact ⟨by omega, hap.list j hj b hb⟩
  have hM : Rof B F rows hs R w0 := ⟨hM.1, fun i hi => (hM.2.1 i hi).up hB, hM.2.2.1.up hB, hF.up _ _ hM.2.2.2.1 hB, Nat.le_trans hM.2.2.2.2 hB.size⟩
  have hDgs : D gsb := hDn gsb hgsz
  simp (maxSteps := 1000000) (disch := omega) only [WS, List.getElem_cons_zero, List.getElem_cons_succ, Option.isNone_some, Option.isNone_none, List.getD_cons_zero, List.getD_cons_succ, I.at, atL, atO, atP, evp, evs, retV, ↓reduceIte, Nat.reduceEqDiff, reduceCtorEq, AS]
  refine loop_of (fun t w' => t 0 = rows ∧ t 3 = gs ∧ ∃ (i : Nat) (R' : List (List (El 8))) (G : List Hd), t 4 = .int .i64 (i : Int) ∧ i ≤ hs.length ∧ Rof B F rows hs R' w' ∧ Ow B w' gs G ∧ G.length = hs.length ∧ (∀ j, j < i → Hj G j = Hj hs j) ∧ gsb < w'.heap.size ∧ (∀ j, j < hs.length → (R'.getD j []).length = (R.getD j []).length) ∧ ∀ j, j < i → R'.getD j [] = List.replicate (R.getD j []).length (m8 j))
    (fun t _ => hs.length - (toI (t 4)).toNat) ⟨by simp only [WS, List.getElem_cons_zero, List.getElem_cons_succ, Option.isNone_some, Option.isNone_none, List.getD_cons_zero, List.getD_cons_succ, I.at, atL, atO, atP, evp, evs, retV, ↓reduceIte, Nat.reduceEqDiff, reduceCtorEq], by simp only [WS, List.getElem_cons_zero, List.getElem_cons_succ, Option.isNone_some, Option.isNone_none, List.getD_cons_zero, List.getD_cons_succ, I.at, atL, atO, atP, evp, evs, retV, ↓reduceIte, Nat.reduceEqDiff, reduceCtorEq], 0, R, _, rfl, by omega, hM, og, by simp, fun j hj => by omega, hgbl, fun _ _ => rfl, fun j hj => by omega⟩ ?_
  clear hM og hgbl
  rintro t w1 ⟨t0, t3, i, R', G, t4, hi, hM, og, hGl, hGv, hgbl, hlen, hdone⟩
  by_cases hil : i < hs.length
  · have hl := hM.1
    have hlenI := hlen i hil
    have hni0 := hne i hil
    have hF1 : Frm (fun w => F w ∧ Ow B w gs G) (fun b => D b ∧ b ≠ gsb) := ⟨fun w1 w2 b h hd hg => ⟨hF.gr _ _ b h.1 hd.1 hg, h.2.grown hg (by rw [hgb]; intro e; cases e; exact hd.2 rfl)⟩, fun w1 w2 h hB => ⟨hF.up _ _ h.1 hB, h.2.up hB⟩⟩
    have hD1 : ∀ i (hi : i < hs.length) b, Fw.blk (Cell.v hs[i]) = some b → D b ∧ b ≠ gsb := fun i hi b hb => ⟨hD i hi b hb, fun e => by rw [Hj_eq hi] at hb; have := (hHb i b hi hb).1; omega⟩
    have W := (Rof.rws (α := El 8) (B := B) hap hF1 hD1).wr R' i hil hl
    have hM1 : Rof B (fun w => F w ∧ Ow B w gs G) rows hs R' w1 := ⟨hM.1, hM.2.1, hM.2.2.1, ⟨hM.2.2.2.1, og⟩, hM.2.2.2.2⟩
    simp (maxSteps := 1000000) (disch := omega) only [WS, List.getElem_cons_zero, List.getElem_cons_succ, Option.isNone_some, Option.isNone_none, List.getD_cons_zero, List.getD_cons_succ, I.at, atL, atO, atP, evp, evs, retV, ↓reduceIte, Nat.reduceEqDiff, reduceCtorEq, AS, t0, t3, t4, hM.2.2.1.Xlen]
    refine loop_of (fun t w' => t 0 = rows ∧ t 3 = gs ∧ t 4 = .int .i64 (i : Int) ∧ ∃ (j : Nat) (a : List (El 8)), t 5 = .int .i64 (j : Int) ∧ j ≤ a.length ∧ Rof B (fun w => F w ∧ Ow B w gs G) rows hs (R'.set i a) w' ∧ gsb < w'.heap.size ∧ a.length = (R.getD i []).length ∧ ∀ x, x < j → (co a).c x = m8 i)
      (fun t _ => (R.getD i []).length - (toI (t 5)).toNat) ⟨by simp only [WS, List.getElem_cons_zero, List.getElem_cons_succ, Option.isNone_some, Option.isNone_none, List.getD_cons_zero, List.getD_cons_succ, I.at, atL, atO, atP, evp, evs, retV, ↓reduceIte, Nat.reduceEqDiff, reduceCtorEq]; exact t0, by simp only [WS, List.getElem_cons_zero, List.getElem_cons_succ, Option.isNone_some, Option.isNone_none, List.getD_cons_zero, List.getD_cons_succ, I.at, atL, atO, atP, evp, evs, retV, ↓reduceIte, Nat.reduceEqDiff, reduceCtorEq]; exact t3, by simp only [WS, List.getElem_cons_zero, List.getElem_cons_succ, Option.isNone_some, Option.isNone_none, List.getD_cons_zero, List.getD_cons_succ, I.at, atL, atO, atP, evp, evs, retV, ↓reduceIte, Nat.reduceEqDiff, reduceCtorEq]; exact t4, 0, R'.getD i [], rfl, by omega, by rw [show R'.set i (R'.getD i []) = R' by rw [List.getD_eq_getElem?_getD, List.getElem?_eq_getElem (by omega)]; simp]; exact hM1, hgbl, hlenI, fun x hx => by omega⟩ ?_
    clear t0 t3 t4 hM hM1 og hgbl
    rintro t w2 ⟨t0, t3, t4, j, a, t5, hj, hM, hgbl, ha, hav⟩
    have hrl := hM.2.2.1
    have hai := (hM.2.1 i hil).sl
    rw [getD_setL R' (by omega), if_pos rfl] at hai
    by_cases hja : j < a.length
    · have e1 : IntKind.u8.wrap (i : Int) = ((m8 i).v.toNat : Int) := by rw [wrap_u8 _ (by omega), m8_v _ (by omega)]
      simp (maxSteps := 1000000) (disch := omega) only [WS, List.getElem_cons_zero, List.getElem_cons_succ, Option.isNone_some, Option.isNone_none, List.getD_cons_zero, List.getD_cons_succ, I.at, atL, atO, atP, evp, evs, retV, ↓reduceIte, Nat.reduceEqDiff, reduceCtorEq, AS, t0, t3, t4, t5, hrl.Xix hil, hrl.Xld hil, hai.Xlen, e1, hai.Xix hja]
      refine W.Xst hM hja (m8 i) fun w3 hM3 hg3 => ?_
      simp (maxSteps := 1000000) (disch := omega) only [WS, List.getElem_cons_zero, List.getElem_cons_succ, Option.isNone_some, Option.isNone_none, List.getD_cons_zero, List.getD_cons_succ, I.at, atL, atO, atP, evp, evs, retV, ↓reduceIte, Nat.reduceEqDiff, reduceCtorEq, AS, t0, t3, t4, t5]
      refine ⟨⟨j + 1, _, rfl, by simp; omega, hM3, Nat.lt_of_lt_of_le hgbl hg3.size, by simp [ha], fun x hx => ?_⟩, by omega⟩
      rw [co_set _ hja]
      by_cases hxj : x = j
      · rw [if_pos hxj]
      · rw [if_neg hxj]; exact hav x (by omega)
    · obtain ⟨hMl, hMo, hMr, ⟨hMF, og⟩, hMs⟩ := hM
      have iG : i < G.length := by omega
      simp (maxSteps := 1000000) (disch := omega) only [WS, List.getElem_cons_zero, List.getElem_cons_succ, Option.isNone_some, Option.isNone_none, List.getD_cons_zero, List.getD_cons_succ, I.at, atL, atO, atP, evp, evs, retV, ↓reduceIte, Nat.reduceEqDiff, reduceCtorEq, AS, t0, t3, t4, t5, hrl.Xix hil, hrl.Xld hil, hai.Xlen, og.sl.Xix iG]
      refine og.Xst iG hs[i] fun w3 og3 hg3 => ?_
      rw [hgb] at hg3
      have hMo3 : ∀ x (hx : x < hs.length), Ow B w3 (Cell.v hs[x]) ((R'.set i a).getD x []) := fun x hx => (hMo x hx).grown hg3 (by rw [Hj_eq hx]; intro e; have := (hHb x gsb hx e).1; omega)
      have hMr3 : Sl w3 rows hs := hMr.grown hg3 (Or.inl (by rw [hrb]; intro e; cases e; omega))
      simp (maxSteps := 1000000) (disch := omega) only [WS, List.getElem_cons_zero, List.getElem_cons_succ, Option.isNone_some, Option.isNone_none, List.getD_cons_zero, List.getD_cons_succ, I.at, atL, atO, atP, evp, evs, retV, ↓reduceIte, Nat.reduceEqDiff, reduceCtorEq, AS, t0, t3, t4, t5]
      refine ⟨⟨i + 1, R'.set i a, G.set i hs[i], rfl, by omega, ⟨hMl, hMo3, hMr3, hF.gr _ _ gsb hMF hDgs hg3, Nat.le_trans hMs hg3.size⟩, og3, by simpa using hGl, fun x hx => ?_, Nat.lt_of_lt_of_le hgbl hg3.size, fun x hx => ?_, fun x hx => ?_⟩, by omega⟩
      · rw [Hj_set iG]
        by_cases hxi : x = i
        · rw [if_pos hxi, hxi, Hj_eq hil]
        · rw [if_neg hxi]; exact hGv x (by omega)
      · rw [getD_setL R' (by omega)]
        by_cases hxi : x = i
        · rw [if_pos hxi, ha, hxi]
        · rw [if_neg hxi]; exact hlen x hx
      · rw [getD_setL R' (by omega)]
        by_cases hxi : x = i
        · rw [if_pos hxi, hxi]; exact rep_of ha fun y hy => hav y (by omega)
        · rw [if_neg hxi]; exact hdone x (by omega)
  obtain rfl : i = hs.length := by omega
  obtain ⟨hl, hO, hrl, hbel, hsz⟩ := hM
  have hOj : ∀ j, j < hs.length → Ow B w1 (Hj hs j) (R'.getD j []) := fun j hj => by rw [← Hj_eq hj]; exact hO j hj
  have hDH : ∀ j b, j < hs.length → Fw.blk (Hj hs j) = some b → D b := fun j b hj hb => hD j hj b (by rw [Hj_eq hj]; exact hb)
  have hDg : ∀ b, gsb ≤ b → D b := fun b hb => hDn b (by omega)
  have G0 : Gr (α := El 8) B F rows gsb hs (fun j => Hj hs j) (fun j => R'.getD j []) (fun j => R'.getD j [] ++ List.replicate (if j < 0 then 70 else if j = 0 then 0 else 0) (m8 j)) w1 := by
    have hif : ∀ j, (if j < 0 then 70 else if j = 0 then 0 else 0) = 0 := fun j => by rw [if_neg (by omega)]; split <;> rfl
    refine ⟨hrl, fun j hj => (hOj j hj).sl, fun j hj => by rw [hif]; simpa using hOj j hj, fun j hj => ⟨_, rfl⟩, fun j hj hR => (hOj j hj).shape hR, hHb, fun b hb => by rw [hrb] at hb; cases hb; omega, fun j b hj hb => Or.inl hb, fun j m b hj hm hjm hb => ?_, fun j m b hj hm hjm hb => ?_, hbel, hsz, hgbl⟩
    · rw [← Hj_eq hj] at hb; rw [← Hj_eq hm]; exact hap.two j m hj hm b hjm hb
    · rw [← Hj_eq hj] at hb; rw [← Hj_eq hm]; exact hap.two j m hj hm b hjm hb
  simp (maxSteps := 1000000) (disch := omega) only [WS, List.getElem_cons_zero, List.getElem_cons_succ, Option.isNone_some, Option.isNone_none, List.getD_cons_zero, List.getD_cons_succ, I.at, atL, atO, atP, evp, evs, retV, ↓reduceIte, Nat.reduceEqDiff, reduceCtorEq, AS, t0, t3, t4, hrl.Xlen]
  refine loop_of (fun t w' => t 0 = rows ∧ t 3 = gs ∧ ∃ (i : Nat) (G : List Hd) (Gv : Nat → Value), t 6 = .int .i64 (i : Int) ∧ i ≤ hs.length ∧ Ow B w' gs G ∧ G.length = hs.length ∧ (∀ j, j < hs.length → Hj G j = Gv j) ∧ Gr (α := El 8) B F rows gsb hs Gv (fun j => R'.getD j []) (fun j => R'.getD j [] ++ List.replicate (if j < i then 70 else if j = i then 0 else 0) (m8 j)) w')
    (fun t _ => hs.length - (toI (t 6)).toNat) ⟨by simp only [WS, List.getElem_cons_zero, List.getElem_cons_succ, Option.isNone_some, Option.isNone_none, List.getD_cons_zero, List.getD_cons_succ, I.at, atL, atO, atP, evp, evs, retV, ↓reduceIte, Nat.reduceEqDiff, reduceCtorEq]; exact t0, by simp only [WS, List.getElem_cons_zero, List.getElem_cons_succ, Option.isNone_some, Option.isNone_none, List.getD_cons_zero, List.getD_cons_succ, I.at, atL, atO, atP, evp, evs, retV, ↓reduceIte, Nat.reduceEqDiff, reduceCtorEq]; exact t3, 0, G, _, rfl, by omega, og, hGl, hGv, G0⟩ ?_
  clear t0 t3 t4 G0 og hGl hGv hgbl hbel hsz hrl hO hOj
  rintro t w3 ⟨t0, t3, i, G, Gv, t6, hi, og, hGl, hGv, hG⟩
  by_cases hil : i < hs.length
  · have hli := hlen i hil
    have hni := hne i hil
    simp (maxSteps := 1000000) (disch := omega) only [WS, List.getElem_cons_zero, List.getElem_cons_succ, Option.isNone_some, Option.isNone_none, List.getD_cons_zero, List.getD_cons_succ, I.at, atL, atO, atP, evp, evs, retV, ↓reduceIte, Nat.reduceEqDiff, reduceCtorEq, AS, t0, t3, t6, hG.rl.Xlen]
    refine loop_of (fun t w' => t 0 = rows ∧ t 3 = gs ∧ t 6 = .int .i64 (i : Int) ∧ ∃ (c : Nat) (G : List Hd) (Gv : Nat → Value), t 7 = .int .i64 (c : Int) ∧ c ≤ 70 ∧ Ow B w' gs G ∧ G.length = hs.length ∧ (∀ j, j < hs.length → Hj G j = Gv j) ∧ Gr (α := El 8) B F rows gsb hs Gv (fun j => R'.getD j []) (fun j => R'.getD j [] ++ List.replicate (if j < i then 70 else if j = i then c else 0) (m8 j)) w')
      (fun t _ => 70 - (toI (t 7)).toNat) ⟨by simp only [WS, List.getElem_cons_zero, List.getElem_cons_succ, Option.isNone_some, Option.isNone_none, List.getD_cons_zero, List.getD_cons_succ, I.at, atL, atO, atP, evp, evs, retV, ↓reduceIte, Nat.reduceEqDiff, reduceCtorEq]; exact t0, by simp only [WS, List.getElem_cons_zero, List.getElem_cons_succ, Option.isNone_some, Option.isNone_none, List.getD_cons_zero, List.getD_cons_succ, I.at, atL, atO, atP, evp, evs, retV, ↓reduceIte, Nat.reduceEqDiff, reduceCtorEq]; exact t3, by simp only [WS, List.getElem_cons_zero, List.getElem_cons_succ, Option.isNone_some, Option.isNone_none, List.getD_cons_zero, List.getD_cons_succ, I.at, atL, atO, atP, evp, evs, retV, ↓reduceIte, Nat.reduceEqDiff, reduceCtorEq]; exact t6, 0, G, Gv, rfl, by omega, og, hGl, hGv, hG⟩ ?_
    clear t0 t3 t6 hG og hGl hGv
    rintro t w4 ⟨t0, t3, t6, c, G, Gv, t7, hc, og, hGl, hGv, hG⟩
    by_cases hlt : c < 70
    · have iG : i < G.length := by omega
      have e2 : IntKind.u8.wrap (i : Int) = ((m8 i).v.toNat : Int) := by rw [wrap_u8 _ (by omega), m8_v _ (by omega)]
      have hgi : Cell.v G[i] = Gv i := by rw [Hj_eq iG]; exact hGv i hil
      simp (maxSteps := 1000000) (disch := omega) only [WS, List.getElem_cons_zero, List.getElem_cons_succ, Option.isNone_some, Option.isNone_none, List.getD_cons_zero, List.getD_cons_succ, I.at, atL, atO, atP, evp, evs, retV, ↓reduceIte, Nat.reduceEqDiff, reduceCtorEq, AS, t0, t3, t6, t7, og.sl.Xix iG, og.sl.Xld iG, hgi, e2]
      refine X_bsl (zs := [m8 i]) (by rfl) (by rfl) fun e3 w5 o3 hB => ?_
      have hG := hG.up hF hB
      have og := og.up hB
      have hcur := hG.gr i hil
      have hif : (if i < i then 70 else if i = i then c else 0) = c := by rw [if_neg (by omega), if_pos rfl]
      rw [hif] at hcur
      simp (maxSteps := 1000000) (disch := omega) only [WS, List.getElem_cons_zero, List.getElem_cons_succ, Option.isNone_some, Option.isNone_none, List.getD_cons_zero, List.getD_cons_succ, I.at, atL, atO, atP, evp, evs, retV, ↓reduceIte, Nat.reduceEqDiff, reduceCtorEq, AS, t0, t3, t6, t7]
      refine Ow.Xapp2 hcur o3.sl hG.sz (by simp only [List.length_append, List.length_replicate, List.length_cons, List.length_nil, maxBytes]; omega) (by simp only [List.length_append, List.length_replicate, List.length_cons, List.length_nil]; omega) fun g' w6 og' hgr => ?_
      have hG6 := hG.app (i := i) (g' := g') (m := [m8 i]) hF hDH hDg hil (by rw [hif]; exact og') hgr
      have hgsne : ∀ b, Fw.blk gs = some b → Fw.blk (Gv i) ≠ some b := fun b hb e => by
        rw [hgb] at hb; cases hb
        rcases hG.gk i gsb hil e with h1 | h1
        · have := (hHb i gsb hil h1).1; omega
        · omega
      have og6 := og.keep hgr.keep hgsne
      obtain ⟨x, rfl⟩ : ∃ x : Hd, g' = Cell.v x := ⟨hd g', og'.sl.hd.1.symm⟩
      simp (maxSteps := 1000000) (disch := omega) only [WS, List.getElem_cons_zero, List.getElem_cons_succ, Option.isNone_some, Option.isNone_none, List.getD_cons_zero, List.getD_cons_succ, I.at, atL, atO, atP, evp, evs, retV, ↓reduceIte, Nat.reduceEqDiff, reduceCtorEq, AS, t0, t3, t6, t7, og6.sl.Xix iG]
      refine og6.Xst iG x fun w7 og7 hg7 => ?_
      rw [hgb] at hg7
      have hG7 := hG6.st hF hDgs hg7
      simp (maxSteps := 1000000) (disch := omega) only [WS, List.getElem_cons_zero, List.getElem_cons_succ, Option.isNone_some, Option.isNone_none, List.getD_cons_zero, List.getD_cons_succ, I.at, atL, atO, atP, evp, evs, retV, ↓reduceIte, Nat.reduceEqDiff, reduceCtorEq, AS, t0, t3, t6, t7]
      refine ⟨⟨c + 1, G.set i x, fun j => if j = i then Cell.v x else Gv j, rfl, by omega, og7, by simpa using hGl, fun j hj => ?_, ?_⟩, by omega⟩
      · show _ = if j = i then Cell.v x else Gv j
        rw [Hj_set iG]
        by_cases hji : j = i
        · rw [if_pos hji, if_pos hji]
        · rw [if_neg hji, if_neg hji]; exact hGv j hj
      · have hE : (fun j => if j = i then (R'.getD i [] ++ List.replicate (if i < i then 70 else if i = i then c else 0) (m8 i)) ++ [m8 i] else R'.getD j [] ++ List.replicate (if j < i then 70 else if j = i then c else 0) (m8 j)) = fun j => R'.getD j [] ++ List.replicate (if j < i then 70 else if j = i then c + 1 else 0) (m8 j) := by
          funext j
          by_cases hji : j = i
          · subst hji
            rw [if_pos rfl, hif, List.append_assoc, ← List.replicate_succ', if_neg (by omega), if_pos rfl]
          · rw [if_neg hji, if_neg hji, if_neg hji]
        rw [hE] at hG7
        exact hG7
    · obtain rfl : c = 70 := by omega
      simp (maxSteps := 1000000) (disch := omega) only [WS, List.getElem_cons_zero, List.getElem_cons_succ, Option.isNone_some, Option.isNone_none, List.getD_cons_zero, List.getD_cons_succ, I.at, atL, atO, atP, evp, evs, retV, ↓reduceIte, Nat.reduceEqDiff, reduceCtorEq, AS, t0, t3, t6, t7, show decide (((70 : Nat) : Int) < 70) = false from rfl]
      refine ⟨⟨i + 1, G, Gv, rfl, by omega, og, hGl, hGv, ?_⟩, by omega⟩
      have hE : (fun j => R'.getD j [] ++ List.replicate (if j < i then 70 else if j = i then 70 else 0) (m8 j)) = fun j => R'.getD j [] ++ List.replicate (if j < i + 1 then 70 else if j = i + 1 then 0 else 0) (m8 j) := by
        funext j
        by_cases hji : j < i
        · rw [if_pos hji, if_pos (by omega)]
        · rw [if_neg hji]
          by_cases hj2 : j = i
          · rw [if_pos hj2, if_pos (by omega)]
          · rw [if_neg hj2, if_neg (by omega)]; split <;> rfl
      rw [hE] at hG
      exact hG
  · obtain rfl : i = hs.length := by omega
    simp (maxSteps := 1000000) (disch := omega) only [WS, List.getElem_cons_zero, List.getElem_cons_succ, Option.isNone_some, Option.isNone_none, List.getD_cons_zero, List.getD_cons_succ, I.at, atL, atO, atP, evp, evs, retV, ↓reduceIte, Nat.reduceEqDiff, reduceCtorEq, AS, t0, t3, t6, hG.rl.Xlen]
    refine loop_of (fun t w' => t 0 = rows ∧ t 3 = gs ∧ w' = w3 ∧ ∃ i : Nat, t 8 = .int .i64 (i : Int) ∧ i ≤ hs.length) (fun t _ => hs.length - (toI (t 8)).toNat) ⟨by simp only [WS, List.getElem_cons_zero, List.getElem_cons_succ, Option.isNone_some, Option.isNone_none, List.getD_cons_zero, List.getD_cons_succ, I.at, atL, atO, atP, evp, evs, retV, ↓reduceIte, Nat.reduceEqDiff, reduceCtorEq]; exact t0, by simp only [WS, List.getElem_cons_zero, List.getElem_cons_succ, Option.isNone_some, Option.isNone_none, List.getD_cons_zero, List.getD_cons_succ, I.at, atL, atO, atP, evp, evs, retV, ↓reduceIte, Nat.reduceEqDiff, reduceCtorEq]; exact t3, rfl, 0, rfl, by omega⟩ ?_
    clear t0 t3 t6
    rintro t w' ⟨t0, t3, rfl, i, t8, hi⟩
    by_cases hil : i < hs.length
    · have e1 := Hj_eq hil
      have iG : i < G.length := by omega
      have e2 : Cell.v G[i] = Gv i := by rw [Hj_eq iG]; exact hGv i hil
      have hH := hG.hr i hil
      have hGi := (hG.gr i hil).sl
      have hli := hlen i hil
      have hni := hne i hil
      have hdi := hdone i hil
      rw [if_pos hil] at hGi
      simp only [hdi] at hH hGi
      generalize hnl : (R.getD i []).length = n at *
      have ln1 : (List.replicate n (m8 i)).length = n := List.length_replicate
      have ln2 : (List.replicate n (m8 i) ++ List.replicate 70 (m8 i)).length = n + 70 := by simp
      simp (maxSteps := 1000000) (disch := omega) only [WS, List.getElem_cons_zero, List.getElem_cons_succ, Option.isNone_some, Option.isNone_none, List.getD_cons_zero, List.getD_cons_succ, I.at, atL, atO, atP, evp, evs, retV, ↓reduceIte, Nat.reduceEqDiff, reduceCtorEq, AS, t0, t3, t8, hG.rl.Xlen]
      refine loop_of (fun t w2 => t 0 = rows ∧ t 3 = gs ∧ t 8 = .int .i64 (i : Int) ∧ w2 = w' ∧ ∃ j : Nat, t 9 = .int .i64 (j : Int) ∧ j ≤ n + 70) (fun t _ => n + 70 - (toI (t 9)).toNat) ⟨by simp only [WS, List.getElem_cons_zero, List.getElem_cons_succ, Option.isNone_some, Option.isNone_none, List.getD_cons_zero, List.getD_cons_succ, I.at, atL, atO, atP, evp, evs, retV, ↓reduceIte, Nat.reduceEqDiff, reduceCtorEq]; exact t0, by simp only [WS, List.getElem_cons_zero, List.getElem_cons_succ, Option.isNone_some, Option.isNone_none, List.getD_cons_zero, List.getD_cons_succ, I.at, atL, atO, atP, evp, evs, retV, ↓reduceIte, Nat.reduceEqDiff, reduceCtorEq]; exact t3, by simp only [WS, List.getElem_cons_zero, List.getElem_cons_succ, Option.isNone_some, Option.isNone_none, List.getD_cons_zero, List.getD_cons_succ, I.at, atL, atO, atP, evp, evs, retV, ↓reduceIte, Nat.reduceEqDiff, reduceCtorEq]; exact t8, rfl, 0, rfl, by omega⟩ ?_
      clear t0 t3 t8
      rintro t w2 ⟨t0, t3, t8, rfl, j, t9, hj⟩
      by_cases hjn : j < n + 70
      · have i2 : j < (List.replicate n (m8 i) ++ List.replicate 70 (m8 i)).length := by omega
        have f1 : IntKind.u8.wrap (i : Int) = ((m8 i).v.toNat : Int) := by rw [wrap_u8 _ (by omega), m8_v _ (by omega)]
        have g1 : decide (((m8 i).v.toNat : Int) = ((m8 i).v.toNat : Int)) = true := decide_eq_true rfl
        have v2 : (List.replicate n (m8 i) ++ List.replicate 70 (m8 i))[j] = m8 i := by
          by_cases hjl : j < n
          · rw [List.getElem_append_left (by omega), List.getElem_replicate]
          · rw [List.getElem_append_right (by rw [List.length_replicate]; omega), List.getElem_replicate]
        by_cases hjl : j < n
        · have i1 : j < (List.replicate n (m8 i)).length := by omega
          have v1 : (List.replicate n (m8 i))[j] = m8 i := by simp
          simp (maxSteps := 1000000) (disch := omega) only [WS, List.getElem_cons_zero, List.getElem_cons_succ, Option.isNone_some, Option.isNone_none, List.getD_cons_zero, List.getD_cons_succ, I.at, atL, atO, atP, evp, evs, retV, ↓reduceIte, Nat.reduceEqDiff, reduceCtorEq, AS, t0, t3, t8, t9, og.sl.Xix iG, og.sl.Xld iG, e2, hGi.Xlen, ln2, hG.rl.Xix hil, hG.rl.Xld hil, e1, hH.Xlen, ln1, hH.Xix i1, hH.Xld i1, v1, cell_e8, f1, g1, hGi.Xix i2, hGi.Xld i2, v2]
          exact ⟨⟨j + 1, rfl, by omega⟩, by omega⟩
        · simp (maxSteps := 1000000) (disch := omega) only [WS, List.getElem_cons_zero, List.getElem_cons_succ, Option.isNone_some, Option.isNone_none, List.getD_cons_zero, List.getD_cons_succ, I.at, atL, atO, atP, evp, evs, retV, ↓reduceIte, Nat.reduceEqDiff, reduceCtorEq, AS, t0, t3, t8, t9, og.sl.Xix iG, og.sl.Xld iG, e2, hGi.Xlen, ln2, hG.rl.Xix hil, hG.rl.Xld hil, e1, hH.Xlen, ln1, cell_e8, f1, g1, hGi.Xix i2, hGi.Xld i2, v2]
          exact ⟨⟨j + 1, rfl, by omega⟩, by omega⟩
      · simp (maxSteps := 1000000) (disch := omega) only [WS, List.getElem_cons_zero, List.getElem_cons_succ, Option.isNone_some, Option.isNone_none, List.getD_cons_zero, List.getD_cons_succ, I.at, atL, atO, atP, evp, evs, retV, ↓reduceIte, Nat.reduceEqDiff, reduceCtorEq, AS, t0, t3, t8, t9, og.sl.Xix iG, og.sl.Xld iG, e2, hGi.Xlen, ln2]
        exact ⟨⟨i + 1, rfl, by omega⟩, by omega⟩
    · simp (maxSteps := 1000000) (disch := omega) only [WS, List.getElem_cons_zero, List.getElem_cons_succ, Option.isNone_some, Option.isNone_none, List.getD_cons_zero, List.getD_cons_succ, I.at, atL, atO, atP, evp, evs, retV, ↓reduceIte, Nat.reduceEqDiff, reduceCtorEq, AS, t0, t3, t8, hG.rl.Xlen]
      exact hG.fr
end Go.Proofs.Ytcbjabnnokjnpaa.Fw
