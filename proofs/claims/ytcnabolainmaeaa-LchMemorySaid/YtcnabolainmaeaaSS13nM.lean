import Derived.Test.YtcnabolainmaeaaProg
import Derived.Test.YtcnabolainmaeaaFwTM
import Derived.Test.YtcnabolainmaeaaSS13vM
import Derived.Test.YtcnabolainmaeaaSS13cM
import Derived.Test.YtcnabolainmaeaaFwZM
import Derived.Test.YtcnabolainmaeaaSS13sM
set_option linter.all false
set_option linter.unusedVariables false
set_option linter.unusedSimpArgs false
set_option maxRecDepth 100000
set_option maxHeartbeats 1000000
namespace Go.Proofs.Ytcnabolainmaeaa.Fw
open Go Go.Fw Go.Proofs
attribute [local irreducible] stepI
def c_lch_bases : C := .seq (.ops [⟨0, (some 2), none, .mov (.c (.slice none 0 0)), []⟩]) (.seq (.ops [⟨0, (some 17), none, .call (.c (.func (.func 21) #[] #[])) [], []⟩, ⟨1, (some 3), none, .mov (.t 17), []⟩]) (.seq (.ops [⟨0, (some 18), none, .bsl 22 1 [.int .u16 0] [(0, (1, .c (.int .u16 1)))], []⟩, ⟨1, (some 19), none, .bsl 27 1 [.slice none 0 0] [(0, (1, .t 18))], []⟩, ⟨2, (some 4), none, .mov (.t 19), []⟩]) (.seq (.seq (.ops [⟨0, (some 5), none, .mov (.c (.int .i64 0)), []⟩]) (.block 0 (.loop (.seq (.seq (.ops [⟨0, (some 20), none, .mov (.t 4), []⟩, ⟨1, (some 21), none, .len (.t 20), []⟩, ⟨2, (some 22), none, .mov (.t 0), []⟩, ⟨3, (some 23), none, .bin .lss (.t 21) (.t 22), []⟩]) (.ite (.t 23) .skip (.exit 0))) (.seq (.block 1 (.seq (.ops [⟨0, (some 27), none, .mov (.t 5), []⟩, ⟨1, (some 28), none, .call (.c (.func (.func 14) #[] #[])) [.t 27], []⟩, ⟨2, (some 26), none, .mov (.t 28), []⟩, ⟨3, (some 29), none, .ext (.t 26) 0, []⟩, ⟨4, (some 30), none, .ext (.t 26) 1, []⟩, ⟨5, (some 6), none, .mov (.t 29), []⟩, ⟨6, (some 7), none, .mov (.t 30), []⟩]) (.seq (.ops [⟨0, (some 31), none, .mov (.t 5), []⟩, ⟨1, (some 32), none, .bin .shl (.c (.int .i64 1)) (.t 31), []⟩, ⟨2, (some 33), none, .bin .add (.t 32) (.c (.int .i64 1)), []⟩, ⟨3, (some 34), none, .mks 22 2 [.int .u16 0] (.t 33) (.t 33), []⟩, ⟨4, (some 8), none, .mov (.t 34), []⟩]) (.seq (.seq (.ops [⟨0, (some 35), none, .mov (.t 6), []⟩, ⟨1, (some 36), none, .len (.t 35), []⟩, ⟨2, (some 37), none, .mov (.c (.int .i64 0)), []⟩]) (.block 2 (.loop (.seq (.ops [⟨0, (some 38), none, .bin .lss (.t 37) (.t 36), []⟩]) (.seq (.ite (.t 38) .skip (.exit 2)) (.seq (.block 3 (.seq (.ops [⟨0, (some 39), none, .mov (.t 37), []⟩, ⟨1, (some 40), none, .ixs 1 (.t 35) (.t 37), []⟩, ⟨2, (some 41), none, .ld (.t 40), []⟩, ⟨3, (some 9), none, .mov (.t 39), []⟩, ⟨4, (some 10), none, .mov (.t 41), []⟩]) (.ops [⟨0, (some 42), none, .mov (.t 8), []⟩, ⟨1, (some 43), none, .mov (.t 9), []⟩, ⟨2, (some 44), none, .bin .shl (.c (.int .i64 1)) (.t 43), []⟩, ⟨3, (some 45), none, .mov (.t 10), []⟩, ⟨4, (some 46), none, .ixs 1 (.t 42) (.t 44), []⟩, ⟨5, none, none, .st (.t 46) (.t 45), []⟩]))) (.ops [⟨0, (some 47), none, .bin .add (.t 37) (.c (.int .i64 1)), []⟩, ⟨1, (some 37), none, .mov (.t 47), []⟩]))))))) (.seq (.ops [⟨0, (some 48), none, .mov (.t 4), []⟩, ⟨1, (some 49), none, .mov (.t 5), []⟩, ⟨2, (some 50), none, .bin .shl (.c (.int .i64 1)) (.t 49), []⟩, ⟨3, (some 51), none, .slc 1 (.t 48) none (some (.t 50)) none, []⟩, ⟨4, (some 52), none, .len (.t 51), []⟩, ⟨5, (some 53), none, .mov (.c (.int .i64 0)), []⟩]) (.block 4 (.loop (.seq (.ops [⟨0, (some 54), none, .bin .lss (.t 53) (.t 52), []⟩]) (.seq (.ite (.t 54) .skip (.exit 4)) (.seq (.block 5 (.seq (.ops [⟨0, (some 55), none, .ixs 1 (.t 51) (.t 53), []⟩, ⟨1, (some 56), none, .ld (.t 55), []⟩, ⟨2, (some 12), none, .mov (.t 56), []⟩]) (.seq (.ops [⟨0, (some 58), none, .mov (.t 3), []⟩, ⟨1, (some 59), none, .mov (.t 12), []⟩, ⟨2, (some 60), none, .mov (.t 8), []⟩, ⟨3, (some 61), none, .call (.c (.func (.func 43) #[] #[])) [.t 58, .t 59, .t 60], []⟩, ⟨4, (some 57), none, .mov (.t 61), []⟩, ⟨5, (some 62), none, .ext (.t 57) 0, []⟩, ⟨6, (some 63), none, .ext (.t 57) 1, []⟩, ⟨7, (some 13), none, .mov (.t 62), []⟩, ⟨8, (some 14), none, .mov (.t 63), []⟩]) (.ops [⟨0, (some 64), none, .mov (.t 4), []⟩, ⟨1, (some 65), none, .mov (.t 13), []⟩, ⟨2, (some 66), none, .bsl 27 1 [.slice none 0 0] [(0, (1, .t 65))], []⟩, ⟨3, (some 67), none, .app 27 24 [.slice none 0 0] (.t 64) (.t 66), []⟩, ⟨4, (some 4), none, .mov (.t 67), []⟩])))) (.ops [⟨0, (some 68), none, .bin .add (.t 53) (.c (.int .i64 1)), []⟩, ⟨1, (some 53), none, .mov (.t 68), []⟩]))))))))))) (.ops [⟨0, (some 24), none, .mov (.t 5), []⟩, ⟨1, (some 25), none, .bin .add (.t 24) (.c (.int .i64 1)), []⟩, ⟨2, (some 5), none, .mov (.t 25), []⟩])))))) (.seq (.seq (.ops [⟨0, (some 69), none, .mov (.t 4), []⟩, ⟨1, (some 70), none, .len (.t 69), []⟩, ⟨2, (some 71), none, .mov (.c (.int .i64 0)), []⟩]) (.block 6 (.loop (.seq (.ops [⟨0, (some 72), none, .bin .lss (.t 71) (.t 70), []⟩]) (.seq (.ite (.t 72) .skip (.exit 6)) (.seq (.block 7 (.seq (.ops [⟨0, (some 73), none, .mov (.t 71), []⟩, ⟨1, (some 74), none, .ixs 1 (.t 69) (.t 71), []⟩, ⟨2, (some 75), none, .ld (.t 74), []⟩, ⟨3, (some 15), none, .mov (.t 73), []⟩, ⟨4, (some 16), none, .mov (.t 75), []⟩]) (.ops [⟨0, (some 76), none, .mov (.t 4), []⟩, ⟨1, (some 77), none, .mov (.t 15), []⟩, ⟨2, (some 78), none, .mov (.t 16), []⟩, ⟨3, (some 79), none, .mov (.t 0), []⟩, ⟨4, (some 80), none, .mov (.t 16), []⟩, ⟨5, (some 81), none, .len (.t 80), []⟩, ⟨6, (some 82), none, .bin .sub (.t 79) (.t 81), []⟩, ⟨7, (some 83), none, .apz 22 2 [.int .u16 0] (.t 78) (.t 82), []⟩, ⟨8, (some 84), none, .ixs 1 (.t 76) (.t 77), []⟩, ⟨9, none, none, .st (.t 84) (.t 83), []⟩]))) (.ops [⟨0, (some 85), none, .bin .add (.t 71) (.c (.int .i64 1)), []⟩, ⟨1, (some 71), none, .mov (.t 85), []⟩]))))))) (.seq (.ops [⟨0, (some 86), none, .mov (.t 4), []⟩, ⟨1, (some 2), none, .mov (.t 86), []⟩]) .ret)))))
attribute [irreducible] c_lch_bases
theorem run_lch_bases {args : List Value} {w : World} {K : Value → World → Prop} (hn : args.length ≤ 87) (h : WP Try.prog c_lch_bases (endQ [.t 2] K) (initT args) w) : CallV Try.prog 35 args w K :=
  call_of follows Try.func35 (by kernel_rfl) (by kernel_rfl) hn h
end Go.Proofs.Ytcnabolainmaeaa.Fw
namespace Go.Proofs.Ytcnabolainmaeaa.Fw
open Go Go.Fw
theorem xP_at {k i j : Nat} (h : j < 2 ^ i) (hi : i ≤ k) : xP k j = xP i j := by
  obtain ⟨e, rfl⟩ : ∃ e, k = i + e := ⟨k - i, by omega⟩
  exact xP_more h
theorem co_one1 : co [(1 : El 16)] = 1 := Ps.ext fun i => by
  cases i with
  | zero => rfl
  | succ i => show (0 : El 16) = if i + 1 = 0 then 1 else 0; rw [if_neg (by omega)]
theorem sP_list {i : Nat} {m : List (El 16)} (h : ∀ n, (co m).c n = if n ≠ 0 ∧ 2 ^ Nat.log2 n = n ∧ Nat.log2 n < i + 1 then lc i (Nat.log2 n) else 0) : co m = sP i := Ps.ext fun n => by
  rw [h n]
  by_cases hn : n ≠ 0 ∧ 2 ^ Nat.log2 n = n
  · by_cases hl : Nat.log2 n < i + 1
    · rw [if_pos ⟨hn.1, hn.2, hl⟩]
      show _ = if n ≠ 0 ∧ 2 ^ Nat.log2 n = n then lc i (Nat.log2 n) else 0
      rw [if_pos hn]
    · rw [if_neg (fun e => hl e.2.2)]
      refine (sP_dg i n ?_).symm
      have := Nat.pow_le_pow_right (show 0 < 2 by omega) (show i + 1 ≤ Nat.log2 n by omega)
      rw [hn.2, Nat.pow_succ] at this
      have := Nat.two_pow_pos i
      omega
  · rw [if_neg (fun e => hn ⟨e.1, e.2.1⟩)]
    show _ = if n ≠ 0 ∧ 2 ^ Nat.log2 n = n then lc i (Nat.log2 n) else 0
    rw [if_neg hn]
theorem shl_one (i : Nat) (hi : i ≤ 60) : shlV .i64 1 (i : Int) = ((2 ^ i : Nat) : Int) := by
  have h : 2 ^ i < 2 ^ 63 := Nat.pow_lt_pow_right (by omega) (by omega)
  have := shl_nat fits_i64 1 i (by show i ≤ 64; omega) (by rw [Nat.one_mul]; exact h)
  rw [Nat.one_shiftLeft] at this
  exact this
set_option maxHeartbeats 4000000 in
theorem lch_bases_spec (w : World) (k : Nat) (hk : k ≤ 8) : CallV Try.prog 35 [.int .i64 ((2 ^ k : Nat) : Int)] w fun v w' => RowKit.Below w.heap.size w w' ∧
    ∃ hs L, Bas (α := El 16) w.heap.size w' v hs L ∧ hs.length = 2 ^ k ∧ ∀ j, j < 2 ^ k → (L j).length = 2 ^ k ∧ co (L j) = xP k j := by
  have hk0 := Nat.two_pow_pos k
  have hk8 : 2 ^ k ≤ 256 := by have : 2 ^ k ≤ 2 ^ 8 := Nat.pow_le_pow_right (by omega) hk; omega
  refine run_lch_bases (by simp) ?_
  simp only [c_lch_bases, WS, List.getElem_cons_zero, List.getElem_cons_succ, Option.isNone_some, Option.isNone_none, List.getD_cons_zero, List.getD_cons_succ, I.at, atL, atO, atP, evp, evs, retV, ↓reduceIte, Nat.reduceEqDiff, reduceCtorEq]
  refine X_call0 ((polys_Over16_spec w).mono ?_)
  rintro r w1 ⟨-, hB, hR⟩
  have B := hB
  have hr := Stay.refl w w1
  have W1 := hB.size
  clear hB
  simp (maxSteps := 1000000) (disch := omega) only [WS, List.getElem_cons_zero, List.getElem_cons_succ, Option.isNone_some, Option.isNone_none, List.getD_cons_zero, List.getD_cons_succ, I.at, atL, atO, atP, evp, evs, retV, ↓reduceIte, Nat.reduceEqDiff, reduceCtorEq, AS]
  refine X_bsl (zs := [(1 : El 16)]) (by rfl) (by rfl) fun s1 w2 o1 hB => ?_
  have S1 := hB.size
  have hr := hr.up hB
  have B := B.trans (hB.mono B.size)
  clear hB
  simp (maxSteps := 1000000) (disch := omega) only [WS, List.getElem_cons_zero, List.getElem_cons_succ, Option.isNone_some, Option.isNone_none, List.getD_cons_zero, List.getD_cons_succ, I.at, atL, atO, atP, evp, evs, retV, ↓reduceIte, Nat.reduceEqDiff, reduceCtorEq, AS]
  refine X_bsl (zs := [hd s1]) (fill1 o1.sl) (by rfl) fun v1 w3 ov hB => ?_
  have b1 := Bas.one o1 (by simp) S1 hB ov
  clear o1 ov
  have hr := hr.up hB
  have B := B.trans (hB.mono B.size)
  clear hB
  simp (maxSteps := 1000000) (disch := omega) only [WS, List.getElem_cons_zero, List.getElem_cons_succ, Option.isNone_some, Option.isNone_none, List.getD_cons_zero, List.getD_cons_succ, I.at, atL, atO, atP, evp, evs, retV, ↓reduceIte, Nat.reduceEqDiff, reduceCtorEq, AS]
  refine loop_of (fun t w' => t 0 = .int .i64 ((2 ^ k : Nat) : Int) ∧ t 3 = r ∧ RowKit.Below w.heap.size w w' ∧ Stay w w1 w' ∧ ∃ (i : Nat) (v : Value) (hs : List Hd) (L : Nat → List (El 16)), t 5 = .int .i64 (i : Int) ∧ i ≤ k ∧ t 4 = v ∧ Bas w1.heap.size w' v hs L ∧ hs.length = 2 ^ i ∧
      ∀ j, j < 2 ^ i → co (L j) = xP k j ∧ (L j).length ≤ j + 1) (fun t _ => k - (toI (t 5)).toNat)
    ⟨by simp only [WS, List.getElem_cons_zero, List.getElem_cons_succ, Option.isNone_some, Option.isNone_none, List.getD_cons_zero, List.getD_cons_succ, I.at, atL, atO, atP, evp, evs, retV, ↓reduceIte, Nat.reduceEqDiff, reduceCtorEq], by simp only [WS, List.getElem_cons_zero, List.getElem_cons_succ, Option.isNone_some, Option.isNone_none, List.getD_cons_zero, List.getD_cons_succ, I.at, atL, atO, atP, evp, evs, retV, ↓reduceIte, Nat.reduceEqDiff, reduceCtorEq], B, hr, 0, v1, [hd s1], _, rfl, by omega, by simp only [WS, List.getElem_cons_zero, List.getElem_cons_succ, Option.isNone_some, Option.isNone_none, List.getD_cons_zero, List.getD_cons_succ, I.at, atL, atO, atP, evp, evs, retV, ↓reduceIte, Nat.reduceEqDiff, reduceCtorEq], b1, rfl, fun j hj => by
      obtain rfl : j = 0 := by simpa using hj
      exact ⟨by rw [co_one1, xP_at (i := 0) (by omega) (by omega)]; rfl, by simp⟩⟩ ?_
  clear B hr b1 S1
  rintro t w4 ⟨t0, t3, B, hr, i, v, hs, L, t5, hi, t4, b1, hl, hL⟩
  have hi0 := Nat.two_pow_pos i
  have hik8 : 2 ^ i ≤ 2 ^ k := Nat.pow_le_pow_right (by omega) hi
  have hne : hs ≠ [] := by rintro rfl; simp at hl; omega
  by_cases hlt : i < k
  · have hik : 2 ^ i < 2 ^ k := Nat.pow_lt_pow_right (by omega) hlt
    have hp1 : 2 ^ (i + 1) = 2 * 2 ^ i := by rw [Nat.pow_succ, Nat.mul_comm]
    have hik1 : 2 ^ (i + 1) ≤ 2 ^ k := Nat.pow_le_pow_right (by omega) hlt
    have e1 := shl_one i (by omega)
    have hlt2 : ((hs.length : Int) < ((2 ^ k : Nat) : Int)) := by omega
    simp (maxSteps := 1000000) (disch := omega) only [WS, List.getElem_cons_zero, List.getElem_cons_succ, Option.isNone_some, Option.isNone_none, List.getD_cons_zero, List.getD_cons_succ, I.at, atL, atO, atP, evp, evs, retV, ↓reduceIte, Nat.reduceEqDiff, reduceCtorEq, AS, t0, t3, t4, t5, b1.own.sl.Xlen, hlt2]
    refine X_call0 ((lch_Linear_spec w4 (i : Int)).mono ?_)
    rintro _ w5 ⟨hB, ⟨-, -, st, m, rfl, om, ml, mc⟩ | ⟨hbad, -⟩⟩
    rotate_left
    · exact absurd ⟨by omega, by omega⟩ hbad
    rw [Int.toNat_natCast] at ml mc
    have om := om.mono hr.sz
    have S4 := B.size
    have hr := hr.up hB
    have b1 := b1.up hB
    have B := B.trans (hB.mono B.size)
    clear hB
    simp (maxSteps := 1000000) (disch := omega) only [WS, List.getElem_cons_zero, List.getElem_cons_succ, Option.isNone_some, Option.isNone_none, List.getD_cons_zero, List.getD_cons_succ, I.at, atL, atO, atP, evp, evs, retV, ↓reduceIte, Nat.reduceEqDiff, reduceCtorEq, AS, t0, t3, t4, t5, X_shl, Int.natCast_nonneg, e1]
    have hbig : 2 * (2 ^ i + 1) ≤ maxBytes := by simp only [maxBytes]; omega
    refine X_mks (x := (0 : El 16)) hbig (by omega) fun sv w6 ov hB => ?_
    have hoff : ∀ b, Fw.blk sv = some b → Off v hs b := fun b hb => b1.off (Or.inr (ov.blk b hb).1)
    have hst : ∀ b, Fw.blk st = some b → Fw.blk sv ≠ some b := fun b hb e => by have := (om.blk b hb).2; have := (ov.blk b e).1; omega
    have hvn : Fw.blk sv ≠ none := ov.bne (by simp)
    have ov := ov.mono hr.sz
    have hr := hr.up hB
    have b1 := b1.up hB
    have om := om.up hB
    have B := B.trans (hB.mono B.size)
    clear hB
    simp (maxSteps := 1000000) (disch := omega) only [WS, List.getElem_cons_zero, List.getElem_cons_succ, Option.isNone_some, Option.isNone_none, List.getD_cons_zero, List.getD_cons_succ, I.at, atL, atO, atP, evp, evs, retV, ↓reduceIte, Nat.reduceEqDiff, reduceCtorEq, AS, t0, t3, t4, t5, om.sl.Xlen, ml]
    refine loop_of (fun t w' => t 0 = .int .i64 ((2 ^ k : Nat) : Int) ∧ t 3 = r ∧ t 4 = v ∧ t 5 = .int .i64 (i : Int) ∧ t 8 = sv ∧ t 35 = st ∧ t 36 = .int .i64 ((i + 1 : Nat) : Int) ∧ RowKit.Below w.heap.size w w' ∧ Stay w w1 w' ∧ Bas w1.heap.size w' v hs L ∧ Ow w1.heap.size w' st m ∧
        ∃ (u : Nat) (ms : List (El 16)), t 37 = .int .i64 (u : Int) ∧ u ≤ i + 1 ∧ Ow w1.heap.size w' sv ms ∧ ms.length = 2 ^ i + 1 ∧ ∀ n, (co ms).c n = if n ≠ 0 ∧ 2 ^ Nat.log2 n = n ∧ Nat.log2 n < u then lc i (Nat.log2 n) else 0) (fun t _ => i + 1 - (toI (t 37)).toNat)
      ⟨by simp only [WS, List.getElem_cons_zero, List.getElem_cons_succ, Option.isNone_some, Option.isNone_none, List.getD_cons_zero, List.getD_cons_succ, I.at, atL, atO, atP, evp, evs, retV, ↓reduceIte, Nat.reduceEqDiff, reduceCtorEq]; exact t0, by simp only [WS, List.getElem_cons_zero, List.getElem_cons_succ, Option.isNone_some, Option.isNone_none, List.getD_cons_zero, List.getD_cons_succ, I.at, atL, atO, atP, evp, evs, retV, ↓reduceIte, Nat.reduceEqDiff, reduceCtorEq]; exact t3, by simp only [WS, List.getElem_cons_zero, List.getElem_cons_succ, Option.isNone_some, Option.isNone_none, List.getD_cons_zero, List.getD_cons_succ, I.at, atL, atO, atP, evp, evs, retV, ↓reduceIte, Nat.reduceEqDiff, reduceCtorEq]; exact t4, by simp only [WS, List.getElem_cons_zero, List.getElem_cons_succ, Option.isNone_some, Option.isNone_none, List.getD_cons_zero, List.getD_cons_succ, I.at, atL, atO, atP, evp, evs, retV, ↓reduceIte, Nat.reduceEqDiff, reduceCtorEq]; exact t5, by simp only [WS, List.getElem_cons_zero, List.getElem_cons_succ, Option.isNone_some, Option.isNone_none, List.getD_cons_zero, List.getD_cons_succ, I.at, atL, atO, atP, evp, evs, retV, ↓reduceIte, Nat.reduceEqDiff, reduceCtorEq], by simp only [WS, List.getElem_cons_zero, List.getElem_cons_succ, Option.isNone_some, Option.isNone_none, List.getD_cons_zero, List.getD_cons_succ, I.at, atL, atO, atP, evp, evs, retV, ↓reduceIte, Nat.reduceEqDiff, reduceCtorEq], by simp only [WS, List.getElem_cons_zero, List.getElem_cons_succ, Option.isNone_some, Option.isNone_none, List.getD_cons_zero, List.getD_cons_succ, I.at, atL, atO, atP, evp, evs, retV, ↓reduceIte, Nat.reduceEqDiff, reduceCtorEq], B, hr, b1, om, 0, _, rfl, by omega, ov, List.length_replicate .., fun n => by rw [co_replicate, if_neg (by omega)]; rfl⟩ ?_
    clear B hr b1 om ov t0 t3 t4 t5
    rintro t w7 ⟨t0, t3, t4, t5, t8, t35, t36, B, hr, b1, om, u, ms, t37, hu, ov, msl, msc⟩
    by_cases hui : u < i + 1
    · have um : u < m.length := by omega
      have e2 := shl_one u (by omega)
      have hui2 : 2 ^ u ≤ 2 ^ i := Nat.pow_le_pow_right (by omega) (by omega)
      have ums : 2 ^ u < ms.length := by omega
      simp (maxSteps := 1000000) (disch := omega) only [WS, List.getElem_cons_zero, List.getElem_cons_succ, Option.isNone_some, Option.isNone_none, List.getD_cons_zero, List.getD_cons_succ, I.at, atL, atO, atP, evp, evs, retV, ↓reduceIte, Nat.reduceEqDiff, reduceCtorEq, AS, t0, t3, t4, t5, t8, t35, t36, t37, om.sl.Xix um, om.sl.Xld um, X_shl, Int.natCast_nonneg, e2, ov.sl.Xix ums]
      refine ov.Xst ums m[u] fun w8 ov8 hg => ?_
      simp (maxSteps := 1000000) (disch := omega) only [WS, List.getElem_cons_zero, List.getElem_cons_succ, Option.isNone_some, Option.isNone_none, List.getD_cons_zero, List.getD_cons_succ, I.at, atL, atO, atP, evp, evs, retV, ↓reduceIte, Nat.reduceEqDiff, reduceCtorEq, AS, t0, t3, t4, t5, t8, t35, t36, t37]
      refine ⟨⟨B.grown hg B.size fun b hb => Nat.le_trans W1 (ov.blk b hb).1, hr.grown hg fun b hb => Or.inl (ov.blk b hb).1, b1.grw hoff hvn hg, om.grown hg fun e => ?_, u + 1, _, rfl, by omega, ov8, by simp [msl], fun n => ?_⟩, by omega⟩
      · obtain ⟨b, hb⟩ := Option.ne_none_iff_exists'.1 hvn
        exact hst b (e.trans hb) hb
      · rw [co_set _ ums, msc n]
        by_cases hn : n = 2 ^ u
        · subst hn
          rw [if_pos rfl, Nat.log2_two_pow, if_pos ⟨by have := Nat.two_pow_pos u; omega, rfl, by omega⟩, ← co_get m um, mc]
        · rw [if_neg hn]
          by_cases hc : n ≠ 0 ∧ 2 ^ Nat.log2 n = n ∧ Nat.log2 n < u
          · rw [if_pos hc, if_pos ⟨hc.1, hc.2.1, by omega⟩]
          · rw [if_neg hc, if_neg]
            rintro ⟨c1, c2, c3⟩
            have : Nat.log2 n ≠ u := fun e => hn (by rw [← e, c2])
            exact hc ⟨c1, c2, by omega⟩
    · obtain rfl : u = i + 1 := by omega
      have hms := sP_list msc
      have ovs := ov.sl
      have hown := b1.own.sub0 (show 2 ^ i ≤ hs.length by omega)
      rw [show hs.take (2 ^ i) = hs by rw [← hl, List.take_length]] at hown
      obtain ⟨tb, tc, htv⟩ := hown.shape hne
      have hts := hown.sl
      simp (maxSteps := 1000000) (disch := omega) only [WS, List.getElem_cons_zero, List.getElem_cons_succ, Option.isNone_some, Option.isNone_none, List.getD_cons_zero, List.getD_cons_succ, I.at, atL, atO, atP, evp, evs, retV, ↓reduceIte, Nat.reduceEqDiff, reduceCtorEq, AS, t0, t3, t4, t5, t8, t35, t36, t37, X_shl, Int.natCast_nonneg, e1, b1.own.sl.XslcHi (show 2 ^ i ≤ hs.length by omega), hts.Xlen, hl]
      generalize Fw.sub v 0 (2 ^ i) = tv at htv hts
      clear hown
      refine loop_of (fun t w' => t 0 = .int .i64 ((2 ^ k : Nat) : Int) ∧ t 3 = r ∧ t 5 = .int .i64 (i : Int) ∧ t 8 = sv ∧ t 51 = tv ∧ t 52 = .int .i64 ((2 ^ i : Nat) : Int) ∧ RowKit.Below w.heap.size w w' ∧ Stay w w1 w' ∧ Sl w' sv ms ∧ Sl w' tv hs ∧
          ∃ (j : Nat) (v : Value) (hs2 : List Hd) (L : Nat → List (El 16)), t 53 = .int .i64 (j : Int) ∧ j ≤ 2 ^ i ∧ t 4 = v ∧ Bas w1.heap.size w' v hs2 L ∧ (∀ b, Fw.blk sv = some b → Off v hs2 b) ∧ hs2.length = 2 ^ i + j ∧ (∃ e, hs2 = hs ++ e) ∧ ∀ u, u < 2 ^ i + j → co (L u) = xP k u ∧ (L u).length ≤ u + 1) (fun t _ => 2 ^ i - (toI (t 53)).toNat)
        ⟨by simp only [WS, List.getElem_cons_zero, List.getElem_cons_succ, Option.isNone_some, Option.isNone_none, List.getD_cons_zero, List.getD_cons_succ, I.at, atL, atO, atP, evp, evs, retV, ↓reduceIte, Nat.reduceEqDiff, reduceCtorEq]; exact t0, by simp only [WS, List.getElem_cons_zero, List.getElem_cons_succ, Option.isNone_some, Option.isNone_none, List.getD_cons_zero, List.getD_cons_succ, I.at, atL, atO, atP, evp, evs, retV, ↓reduceIte, Nat.reduceEqDiff, reduceCtorEq]; exact t3, by simp only [WS, List.getElem_cons_zero, List.getElem_cons_succ, Option.isNone_some, Option.isNone_none, List.getD_cons_zero, List.getD_cons_succ, I.at, atL, atO, atP, evp, evs, retV, ↓reduceIte, Nat.reduceEqDiff, reduceCtorEq]; exact t5, by simp only [WS, List.getElem_cons_zero, List.getElem_cons_succ, Option.isNone_some, Option.isNone_none, List.getD_cons_zero, List.getD_cons_succ, I.at, atL, atO, atP, evp, evs, retV, ↓reduceIte, Nat.reduceEqDiff, reduceCtorEq]; exact t8, by simp only [WS, List.getElem_cons_zero, List.getElem_cons_succ, Option.isNone_some, Option.isNone_none, List.getD_cons_zero, List.getD_cons_succ, I.at, atL, atO, atP, evp, evs, retV, ↓reduceIte, Nat.reduceEqDiff, reduceCtorEq], by simp only [WS, List.getElem_cons_zero, List.getElem_cons_succ, Option.isNone_some, Option.isNone_none, List.getD_cons_zero, List.getD_cons_succ, I.at, atL, atO, atP, evp, evs, retV, ↓reduceIte, Nat.reduceEqDiff, reduceCtorEq], B, hr, ovs, hts, 0, v, hs, L, rfl, by omega, by simp only [WS, List.getElem_cons_zero, List.getElem_cons_succ, Option.isNone_some, Option.isNone_none, List.getD_cons_zero, List.getD_cons_succ, I.at, atL, atO, atP, evp, evs, retV, ↓reduceIte, Nat.reduceEqDiff, reduceCtorEq]; exact t4, b1, hoff, by omega, ⟨[], by simp⟩, hL⟩ ?_
      clear B hr b1 om ov ovs t0 t3 t4 t5 t8 t35 t36 t37 hts hoff
      rintro t w8 ⟨t0, t3, t5, t8, t51, t52, B, hr, ovs, hts, j, v, hs2, L2, t53, hj, t4, b2, hoff, hl2, ⟨e, rfl⟩, hL2⟩
      by_cases hji : j < 2 ^ i
      · have jh : j < hs.length := by omega
        have jh2 : j < (hs ++ e).length := by omega
        have hrow := (b2.get jh2).sl
        rw [List.getElem_append_left jh] at hrow
        obtain ⟨lj1, lj2⟩ := hL2 j (by omega)
        simp (maxSteps := 1000000) (disch := omega) only [WS, List.getElem_cons_zero, List.getElem_cons_succ, Option.isNone_some, Option.isNone_none, List.getD_cons_zero, List.getD_cons_succ, I.at, atL, atO, atP, evp, evs, retV, ↓reduceIte, Nat.reduceEqDiff, reduceCtorEq, AS, t0, t3, t4, t5, t8, t51, t52, t53, hts.Xix jh, hts.Xld jh]
        refine X_call0 ((polys_Ring_w_Mul_spec w8 r (Cell.v hs[j]) sv (L2 j) ms (hR _ hr.st) hrow ovs (by omega) (by omega)).mono ?_)
        rintro _ w9 ⟨hB, ⟨-, -, sq, lq, rfl, oq, tq, cq, -⟩ | ⟨hbad, -⟩⟩
        rotate_left
        · exact absurd ⟨by omega, by omega⟩ hbad
        have hw8 := hB.size
        have hx : co lq = xP k (2 ^ i + j) := by
          rw [cq, lj1, hms, xP_at (i := i + 1) (j := 2 ^ i + j) (by omega) (by omega), xP_high, xP_at hji (by omega)]
        have hlq : lq.length ≤ 2 ^ i + j + 1 := by
          rw [len_tr tq]
          exact tln_dg_le (by rw [hx]; exact xP_dg k _ (by omega))
        have hqne : lq ≠ [] := by
          rintro rfl
          have h1 := xP_top k (2 ^ i + j) (by omega)
          rw [← hx] at h1
          exact El.one_ne h1.symm
        simp (maxSteps := 1000000) (disch := omega) only [WS, List.getElem_cons_zero, List.getElem_cons_succ, Option.isNone_some, Option.isNone_none, List.getD_cons_zero, List.getD_cons_succ, I.at, atL, atO, atP, evp, evs, retV, ↓reduceIte, Nat.reduceEqDiff, reduceCtorEq, AS, t0, t3, t4, t5, t8, t51, t52, t53]
        refine X_bsl (zs := [hd sq]) (fill1 oq.sl) (by rfl) fun sx w10 ox hB2 => ?_
        have hB12 := hB.trans (hB2.mono hw8)
        have hw10 := hB2.size
        simp (maxSteps := 1000000) (disch := omega) only [WS, List.getElem_cons_zero, List.getElem_cons_succ, Option.isNone_some, Option.isNone_none, List.getD_cons_zero, List.getD_cons_succ, I.at, atL, atO, atP, evp, evs, retV, ↓reduceIte, Nat.reduceEqDiff, reduceCtorEq, AS, t0, t3, t4, t5, t8, t51, t52, t53]
        refine ((b2.own).up hB12).Xapp2 ox.sl (Nat.le_trans hr.sz hB12.size) (by simp only [List.length_singleton, maxBytes]; omega) (by simp only [List.length_singleton]; omega) fun v' w11 ov' hg => ?_
        have hpush := b2.push (by rintro h; rw [h] at jh2; simp at jh2) hr.sz hB oq hqne hB2 hg ov'
        have hvb : ∀ b, Fw.blk v = some b → w1.heap.size ≤ b ∧ b < w8.heap.size := b2.own.blk
        have hr2 := (hr.up hB12).grew hg fun b hb => Or.inl (hvb b hb).1
        obtain ⟨vb, hvb2, hvb3⟩ := b2.own.sl.blk_lt (by rintro h; rw [h] at jh2; simp at jh2)
        have ovs2 : Sl w11 sv ms := by
          have h1 := ovs.up hB12
          rcases hg with ⟨-, hg⟩ | ⟨-, hg⟩
          · refine h1.grown hg (Or.inl ?_)
            rw [hvb2]
            intro e
            exact (hoff vb e).2 hvb2
          · exact h1.up hg
        rw [List.append_assoc] at ov'
        have hts2 := hg.pre hvb2 ov' (hts.up hB12) ⟨tb, tc, htv⟩ hne
        have hoff2 : ∀ b, Fw.blk sv = some b → Off v' ((hs ++ e) ++ [hd sq]) b := fun b hb => by
          obtain ⟨c, hc, hclt⟩ := ovs.blk_lt (by rintro rfl; simp at msl)
          obtain rfl : c = b := by rw [hb] at hc; cases hc; rfl
          refine ⟨fun u hu e2 => ?_, fun e2 => ?_⟩
          · by_cases hul : u < (hs ++ e).length
            · rw [Hj_app hul] at e2
              exact (hoff c hb).1 u hul e2
            · obtain rfl : u = (hs ++ e).length := by simp at hu hul ⊢; omega
              rw [Hj_last, oq.sl.hd.1] at e2
              have := (oq.blk c e2).1
              omega
          · rcases hg with ⟨h1, -⟩ | ⟨h1, -⟩
            · rw [h1] at e2; exact (hoff c hb).2 e2
            · have := h1 c e2; omega
        have B2 : RowKit.Below w.heap.size w w11 := hg.below (B.trans (hB12.mono B.size)) (Nat.le_trans B.size hB12.size) fun b hb => Nat.le_trans W1 (hvb b hb).1
        simp (maxSteps := 1000000) (disch := omega) only [WS, List.getElem_cons_zero, List.getElem_cons_succ, Option.isNone_some, Option.isNone_none, List.getD_cons_zero, List.getD_cons_succ, I.at, atL, atO, atP, evp, evs, retV, ↓reduceIte, Nat.reduceEqDiff, reduceCtorEq, AS, t0, t3, t4, t5, t8, t51, t52, t53]
        refine ⟨⟨B2, hr2, ovs2, hts2, j + 1, v', _, _, rfl, by omega, rfl, hpush, hoff2, by simp at hl2 ⊢; omega, ⟨e ++ [hd sq], by rw [List.append_assoc]⟩, fun u hu => ?_⟩, by omega⟩
        by_cases hul : u < 2 ^ i + j
        · rw [if_neg (by omega)]; exact hL2 u hul
        · obtain rfl : u = 2 ^ i + j := by omega
          rw [if_pos hl2.symm]; exact ⟨hx, hlq⟩
      · obtain rfl : j = 2 ^ i := by omega
        simp (maxSteps := 1000000) (disch := omega) only [WS, List.getElem_cons_zero, List.getElem_cons_succ, Option.isNone_some, Option.isNone_none, List.getD_cons_zero, List.getD_cons_succ, I.at, atL, atO, atP, evp, evs, retV, ↓reduceIte, Nat.reduceEqDiff, reduceCtorEq, AS, t0, t3, t4, t5, t8, t51, t52, t53]
        refine ⟨⟨B, hr, i + 1, v, _, L2, rfl, by omega, rfl, b2, by rw [hl2, hp1]; omega, fun u hu => hL2 u (by rw [hp1] at hu; omega)⟩, by omega⟩
  · obtain rfl : i = k := by omega
    have hlt2 : ¬ ((hs.length : Int) < ((2 ^ i : Nat) : Int)) := by omega
    simp (maxSteps := 1000000) (disch := omega) only [WS, List.getElem_cons_zero, List.getElem_cons_succ, Option.isNone_some, Option.isNone_none, List.getD_cons_zero, List.getD_cons_succ, I.at, atL, atO, atP, evp, evs, retV, ↓reduceIte, Nat.reduceEqDiff, reduceCtorEq, AS, t0, t3, t4, t5, b1.own.sl.Xlen, hlt2, decide_false]
    refine loop_of (fun t w' => t 0 = .int .i64 ((2 ^ i : Nat) : Int) ∧ t 4 = v ∧ t 69 = v ∧ t 70 = .int .i64 ((2 ^ i : Nat) : Int) ∧ RowKit.Below w.heap.size w w' ∧ w1.heap.size ≤ w'.heap.size ∧ ∃ (j : Nat) (hs : List Hd) (L : Nat → List (El 16)), t 71 = .int .i64 (j : Int) ∧ j ≤ 2 ^ i ∧ Bas w1.heap.size w' v hs L ∧ hs.length = 2 ^ i ∧
        ∀ u, u < 2 ^ i → co (L u) = xP i u ∧ if u < j then (L u).length = 2 ^ i else (L u).length ≤ u + 1) (fun t _ => 2 ^ i - (toI (t 71)).toNat)
      ⟨by simp only [WS, List.getElem_cons_zero, List.getElem_cons_succ, Option.isNone_some, Option.isNone_none, List.getD_cons_zero, List.getD_cons_succ, I.at, atL, atO, atP, evp, evs, retV, ↓reduceIte, Nat.reduceEqDiff, reduceCtorEq]; exact t0, by simp only [WS, List.getElem_cons_zero, List.getElem_cons_succ, Option.isNone_some, Option.isNone_none, List.getD_cons_zero, List.getD_cons_succ, I.at, atL, atO, atP, evp, evs, retV, ↓reduceIte, Nat.reduceEqDiff, reduceCtorEq]; exact t4, by simp only [WS, List.getElem_cons_zero, List.getElem_cons_succ, Option.isNone_some, Option.isNone_none, List.getD_cons_zero, List.getD_cons_succ, I.at, atL, atO, atP, evp, evs, retV, ↓reduceIte, Nat.reduceEqDiff, reduceCtorEq], by simp only [WS, List.getElem_cons_zero, List.getElem_cons_succ, Option.isNone_some, Option.isNone_none, List.getD_cons_zero, List.getD_cons_succ, I.at, atL, atO, atP, evp, evs, retV, ↓reduceIte, Nat.reduceEqDiff, reduceCtorEq]; rw [hl], B, hr.sz, 0, hs, L, rfl, by omega, b1, hl, fun u hu => by rw [if_neg (by omega)]; exact hL u hu⟩ ?_
    clear B hr b1 hl hL t0 t3 t4 t5 hlt2 hne
    rintro t w4 ⟨t0, t4, t69, t70, B, Z, j, hs, L, t71, hj, b1, hl, hL⟩
    by_cases hji : j < 2 ^ i
    · have jh : j < hs.length := by omega
      have hrow := b1.get jh
      obtain ⟨lj1, lj2⟩ := hL j hji
      rw [if_neg (by omega)] at lj2
      simp (maxSteps := 1000000) (disch := omega) only [WS, List.getElem_cons_zero, List.getElem_cons_succ, Option.isNone_some, Option.isNone_none, List.getD_cons_zero, List.getD_cons_succ, I.at, atL, atO, atP, evp, evs, retV, ↓reduceIte, Nat.reduceEqDiff, reduceCtorEq, AS, t0, t4, t69, t70, t71, b1.own.sl.Xix jh, b1.own.sl.Xld jh, hrow.sl.Xlen]
      refine Ow.Xapz (x := (0 : El 16)) hrow rfl Z (by simp only [maxBytes]; omega) (by omega) fun p' w5 op hg hn => ?_
      have hE := Hj_get jh
      rw [← hE] at hg hn
      have ho1 := b1.own1 jh hg
      obtain ⟨x, rfl⟩ : ∃ x : Hd, p' = Cell.v x := ⟨hd p', op.sl.hd.1.symm⟩
      simp (maxSteps := 1000000) (disch := omega) only [WS, List.getElem_cons_zero, List.getElem_cons_succ, Option.isNone_some, Option.isNone_none, List.getD_cons_zero, List.getD_cons_succ, I.at, atL, atO, atP, evp, evs, retV, ↓reduceIte, Nat.reduceEqDiff, reduceCtorEq, AS, t0, t4, t69, t70, t71, ho1.sl.Xix jh]
      refine ho1.Xst jh x fun w6 ho2 hg2 => ?_
      have hx := b1.ext jh op (by simp [b1.ne j jh]) hg hn ho2 hg2
      simp (maxSteps := 1000000) (disch := omega) only [WS, List.getElem_cons_zero, List.getElem_cons_succ, Option.isNone_some, Option.isNone_none, List.getD_cons_zero, List.getD_cons_succ, I.at, atL, atO, atP, evp, evs, retV, ↓reduceIte, Nat.reduceEqDiff, reduceCtorEq, AS, t0, t4, t69, t70, t71]
      refine ⟨⟨(B.grown hg B.size fun b hb => Nat.le_trans W1 ((b1.row j jh).blk b hb).1).grown hg2 (Nat.le_trans B.size hg.size) fun b hb => Nat.le_trans W1 (b1.own.blk b hb).1, Nat.le_trans Z (Nat.le_trans hg.size hg2.size), j + 1, _, _, rfl, by omega, hx, by simp [hl], fun u hu => ?_⟩, by omega⟩
      by_cases huj : u = j
      · subst huj
        rw [if_pos rfl, if_pos (by omega), co_append_zeros]
        exact ⟨lj1, by rw [List.length_append, List.length_replicate]; omega⟩
      · rw [if_neg huj]
        have := hL u hu
        refine ⟨this.1, ?_⟩
        have h2 := this.2
        by_cases hlt : u < j
        · rw [if_pos hlt] at h2; rw [if_pos (by omega)]; exact h2
        · rw [if_neg hlt] at h2; rw [if_neg (by omega)]; exact h2
    · obtain rfl : j = 2 ^ i := by omega
      simp (maxSteps := 1000000) (disch := omega) only [WS, List.getElem_cons_zero, List.getElem_cons_succ, Option.isNone_some, Option.isNone_none, List.getD_cons_zero, List.getD_cons_succ, I.at, atL, atO, atP, evp, evs, retV, ↓reduceIte, Nat.reduceEqDiff, reduceCtorEq, AS, t0, t4, t69, t70, t71]
      exact ⟨B, hs, L, ⟨b1.own.mono W1, fun j hj => (b1.row j hj).mono W1, b1.ne, b1.two, b1.lst⟩, hl, fun j hj => ⟨by have := (hL j hj).2; rwa [if_pos hj] at this, (hL j hj).1⟩⟩
end Go.Proofs.Ytcnabolainmaeaa.Fw

set_option linter.unusedVariables false
set_option linter.unusedSimpArgs false
set_option maxRecDepth 100000
set_option maxHeartbeats 1000000
namespace Go.Proofs.Ytcnabolainmaeaa.Fw
open Go Go.Fw Go.Proofs
attribute [local irreducible] stepI
end Go.Proofs.Ytcnabolainmaeaa.Fw
namespace Go.Proofs.Ytcnabolainmaeaa.Fw
open Go Go.Fw
end Go.Proofs.Ytcnabolainmaeaa.Fw

set_option linter.unusedVariables false
set_option linter.unusedSimpArgs false
set_option maxRecDepth 100000
set_option maxHeartbeats 1000000
namespace Go.Proofs.Ytcnabolainmaeaa.Fw
open Go Go.Fw Go.Proofs
attribute [local irreducible] stepI
end Go.Proofs.Ytcnabolainmaeaa.Fw
namespace Go.Proofs.Ytcnabolainmaeaa.Fw
open Go Go.Fw
end Go.Proofs.Ytcnabolainmaeaa.Fw
