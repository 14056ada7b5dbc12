import Derived.Test.YtcnabolainmaeaaProg
import Derived.Test.YtcnabolainmaeaaFwTT
import Derived.Test.YtcnabolainmaeaaSS13tT
import Derived.Test.YtcnabolainmaeaaSS13pT
set_option linter.all false
set_option linter.unusedVariables false
set_option linter.unusedSimpArgs false
set_option maxRecDepth 100000
set_option maxHeartbeats 1000000
namespace Go.Proofs.Ytcnabolainmaeaa.Fw
open Go Go.Fw Go.Proofs
attribute [local irreducible] stepI
def c_culletref13_ToMonomials : C := .seq (.ops [⟨0, (some 2), none, .mov (.c (.slice none 0 0)), []⟩, ⟨1, (some 3), none, .mov (.c (.int .i64 0)), []⟩]) (.seq (.seq (.ops [⟨0, (some 8), none, .mov (.t 0), []⟩, ⟨1, (some 9), none, .len (.t 8), []⟩, ⟨2, (some 10), none, .call (.c (.func (.func 63) #[] #[])) [.t 9, .c (.int .i64 256)], []⟩, ⟨3, (some 11), none, .un .not (.t 10), []⟩]) (.ite (.t 11) (.seq (.ops [⟨0, (some 2), none, .mov (.c (.slice none 0 0)), []⟩, ⟨1, (some 3), none, .mov (.c (.int .i64 130)), []⟩]) .ret) .skip)) (.seq (.ops [⟨0, (some 12), none, .mov (.t 0), []⟩, ⟨1, (some 13), none, .len (.t 12), []⟩, ⟨2, (some 14), none, .call (.c (.func (.func 64) #[] #[])) [.t 13], []⟩, ⟨3, (some 4), none, .mov (.t 14), []⟩]) (.seq (.ops [⟨0, (some 15), none, .mov (.t 0), []⟩, ⟨1, (some 16), none, .len (.t 15), []⟩, ⟨2, (some 17), none, .mks 22 2 [.int .u16 0] (.t 16) (.t 16), []⟩, ⟨3, (some 5), none, .mov (.t 17), []⟩]) (.seq (.seq (.ops [⟨0, (some 6), none, .mov (.c (.int .i64 0)), []⟩]) (.block 0 (.loop (.seq (.seq (.ops [⟨0, (some 18), none, .mov (.t 6), []⟩, ⟨1, (some 19), none, .mov (.t 0), []⟩, ⟨2, (some 20), none, .len (.t 19), []⟩, ⟨3, (some 21), none, .bin .lss (.t 18) (.t 20), []⟩]) (.ite (.t 21) .skip (.exit 0))) (.seq (.block 1 (.seq (.ops [⟨0, (some 7), none, .mov (.c (.int .i64 0)), []⟩]) (.block 2 (.loop (.seq (.seq (.ops [⟨0, (some 24), none, .mov (.t 7), []⟩, ⟨1, (some 25), none, .mov (.t 4), []⟩, ⟨2, (some 26), none, .mov (.t 6), []⟩, ⟨3, (some 27), none, .ixs 1 (.t 25) (.t 26), []⟩, ⟨4, (some 28), none, .ld (.t 27), []⟩, ⟨5, (some 29), none, .len (.t 28), []⟩, ⟨6, (some 30), none, .bin .lss (.t 24) (.t 29), []⟩, ⟨7, (some 31), none, .mov (.t 30), []⟩, ⟨8, (some 32), (some (31, true)), .mov (.t 0), []⟩, ⟨9, (some 33), (some (31, true)), .mov (.t 6), []⟩, ⟨10, (some 34), (some (31, true)), .ixs 1 (.t 32) (.t 33), []⟩, ⟨11, (some 35), (some (31, true)), .ld (.t 34), []⟩, ⟨12, (some 36), (some (31, true)), .bin .neq (.t 35) (.c (.int .u16 0)), []⟩, ⟨13, (some 37), none, .pick (.t 31) (.t 36) (.c (.bool false)), []⟩]) (.ite (.t 37) .skip (.exit 2))) (.seq (.block 3 (.dops [⟨0, (some 40), none, .mov (.t 5), []⟩, ⟨1, (some 41), none, .mov (.t 7), []⟩, ⟨2, (some 42), none, .mov (.t 5), []⟩, ⟨3, (some 43), none, .mov (.t 7), []⟩, ⟨4, (some 44), none, .ixs 1 (.t 42) (.t 43), []⟩, ⟨5, (some 45), none, .ld (.t 44), []⟩, ⟨6, (some 46), none, .mov (.t 0), []⟩, ⟨7, (some 47), none, .mov (.t 6), []⟩, ⟨8, (some 48), none, .ixs 1 (.t 46) (.t 47), []⟩, ⟨9, (some 49), none, .ld (.t 48), []⟩, ⟨10, (some 50), none, .mov (.t 4), []⟩, ⟨11, (some 51), none, .mov (.t 6), []⟩, ⟨12, (some 52), none, .ixs 1 (.t 50) (.t 51), []⟩, ⟨13, (some 53), none, .ld (.t 52), []⟩, ⟨14, (some 54), none, .mov (.t 7), []⟩, ⟨15, (some 55), none, .ixs 1 (.t 53) (.t 54), []⟩, ⟨16, (some 56), none, .ld (.t 55), []⟩, ⟨17, (some 57), none, .call (.c (.func (.func 61) #[] #[])) [.t 49, .t 56], [5]⟩, ⟨18, (some 58), none, .bin .xor (.t 45) (.t 57), []⟩, ⟨19, (some 59), none, .ixs 1 (.t 40) (.t 41), []⟩, ⟨20, none, none, .st (.t 59) (.t 58), []⟩])) (.ops [⟨0, (some 38), none, .mov (.t 7), []⟩, ⟨1, (some 39), none, .bin .add (.t 38) (.c (.int .i64 1)), []⟩, ⟨2, (some 7), none, .mov (.t 39), []⟩]))))))) (.ops [⟨0, (some 22), none, .mov (.t 6), []⟩, ⟨1, (some 23), none, .bin .add (.t 22) (.c (.int .i64 1)), []⟩, ⟨2, (some 6), none, .mov (.t 23), []⟩])))))) (.seq (.ops [⟨0, (some 60), none, .mov (.t 5), []⟩, ⟨1, (some 2), none, .mov (.t 60), []⟩, ⟨2, (some 3), none, .mov (.c (.int .i64 0)), []⟩]) .ret)))))
attribute [irreducible] c_culletref13_ToMonomials
theorem run_culletref13_ToMonomials {args : List Value} {w : World} {K : Value → World → Prop} (hn : args.length ≤ 61) (h : WP Try.prog c_culletref13_ToMonomials (endQ [.t 2, .t 3] K) (initT args) w) : CallV Try.prog 53 args w K :=
  call_of follows Try.func53 (by kernel_rfl) (by kernel_rfl) hn h
def c_culletref13_members : C := .seq (.ops [⟨0, (some 2), none, .mov (.c (.slice none 0 0)), []⟩]) (.seq (.ops [⟨0, (some 11), none, .bsl 22 1 [.int .u16 0] [(0, (1, .c (.int .u16 1)))], []⟩, ⟨1, (some 12), none, .bsl 27 1 [.slice none 0 0] [(0, (1, .t 11))], []⟩, ⟨2, (some 3), none, .mov (.t 12), []⟩]) (.seq (.seq (.ops [⟨0, (some 4), none, .mov (.c (.int .i64 0)), []⟩]) (.block 0 (.loop (.seq (.seq (.ops [⟨0, (some 13), none, .mov (.t 3), []⟩, ⟨1, (some 14), none, .len (.t 13), []⟩, ⟨2, (some 15), none, .mov (.t 0), []⟩, ⟨3, (some 16), none, .bin .lss (.t 14) (.t 15), []⟩]) (.ite (.t 16) .skip (.exit 0))) (.seq (.block 1 (.seq (.ops [⟨0, (some 20), none, .mov (.t 4), []⟩, ⟨1, (some 21), none, .call (.c (.func (.func 66) #[] #[])) [.t 20], []⟩, ⟨2, (some 22), none, .call (.c (.func (.func 68) #[] #[])) [.c (.bool true), .t 21], []⟩, ⟨3, (some 19), none, .mov (.t 22), []⟩, ⟨4, (some 23), none, .ext (.t 19) 0, []⟩, ⟨5, (some 24), none, .ext (.t 19) 1, []⟩, ⟨6, (some 5), none, .mov (.t 23), []⟩, ⟨7, (some 6), none, .mov (.t 24), []⟩]) (.seq (.ops [⟨0, (some 25), none, .mov (.t 3), []⟩, ⟨1, (some 26), none, .len (.t 25), []⟩, ⟨2, (some 7), none, .mov (.t 26), []⟩]) (.seq (.ops [⟨0, (some 8), none, .mov (.c (.int .i64 0)), []⟩]) (.block 2 (.loop (.seq (.seq (.ops [⟨0, (some 27), none, .mov (.t 8), []⟩, ⟨1, (some 28), none, .mov (.t 7), []⟩, ⟨2, (some 29), none, .bin .lss (.t 27) (.t 28), []⟩]) (.ite (.t 29) .skip (.exit 2))) (.seq (.block 3 (.seq (.ops [⟨0, (some 33), none, .mov (.t 3), []⟩, ⟨1, (some 34), none, .mov (.t 8), []⟩, ⟨2, (some 35), none, .ixs 1 (.t 33) (.t 34), []⟩, ⟨3, (some 36), none, .ld (.t 35), []⟩, ⟨4, (some 37), none, .mov (.t 5), []⟩, ⟨5, (some 38), none, .call (.c (.func (.func 69) #[] #[])) [.c (.bool true), .t 36, .t 37], []⟩, ⟨6, (some 32), none, .mov (.t 38), []⟩, ⟨7, (some 39), none, .ext (.t 32) 0, []⟩, ⟨8, (some 40), none, .ext (.t 32) 1, []⟩, ⟨9, (some 9), none, .mov (.t 39), []⟩, ⟨10, (some 10), none, .mov (.t 40), []⟩]) (.ops [⟨0, (some 41), none, .mov (.t 3), []⟩, ⟨1, (some 42), none, .mov (.t 9), []⟩, ⟨2, (some 43), none, .bsl 27 1 [.slice none 0 0] [(0, (1, .t 42))], []⟩, ⟨3, (some 44), none, .app 27 24 [.slice none 0 0] (.t 41) (.t 43), []⟩, ⟨4, (some 3), none, .mov (.t 44), []⟩]))) (.ops [⟨0, (some 30), none, .mov (.t 8), []⟩, ⟨1, (some 31), none, .bin .add (.t 30) (.c (.int .i64 1)), []⟩, ⟨2, (some 8), none, .mov (.t 31), []⟩]))))))))) (.ops [⟨0, (some 17), none, .mov (.t 4), []⟩, ⟨1, (some 18), none, .bin .add (.t 17) (.c (.int .i64 1)), []⟩, ⟨2, (some 4), none, .mov (.t 18), []⟩])))))) (.seq (.ops [⟨0, (some 45), none, .mov (.t 3), []⟩, ⟨1, (some 2), none, .mov (.t 45), []⟩]) .ret)))
attribute [irreducible] c_culletref13_members
theorem run_culletref13_members {args : List Value} {w : World} {K : Value → World → Prop} (hn : args.length ≤ 46) (h : WP Try.prog c_culletref13_members (endQ [.t 2] K) (initT args) w) : CallV Try.prog 64 args w K :=
  call_of follows Try.func64 (by kernel_rfl) (by kernel_rfl) hn h
end Go.Proofs.Ytcnabolainmaeaa.Fw
namespace Go.Proofs.Ytcnabolainmaeaa.Fw
open Go Go.Fw
set_option maxHeartbeats 4000000 in
theorem culletref13_members_spec (w : World) (k : Nat) (hk : k ≤ 8) : CallV Try.prog 64 [.int .i64 ((2 ^ k : Nat) : Int)] w fun v w' => RowKit.Below w.heap.size w w' ∧
    ∃ hs L, Bas (α := El 16) w.heap.size w' v hs L ∧ hs.length = 2 ^ k ∧ ∀ j, j < 2 ^ k → co (L j) = xP k j ∧ (L j).length ≤ j + 1 := by
  have hk0 := Nat.two_pow_pos k
  have hk8 : 2 ^ k ≤ 256 := by have : 2 ^ k ≤ 2 ^ 8 := Nat.pow_le_pow_right (by omega) hk; omega
  refine run_culletref13_members (by simp) ?_
  simp only [c_culletref13_members, WS, List.getElem_cons_zero, List.getElem_cons_succ, Option.isNone_some, Option.isNone_none, List.getD_cons_zero, List.getD_cons_succ, I.at, atL, atO, atP, evp, evs, retV, ↓reduceIte, Nat.reduceEqDiff, reduceCtorEq]
  refine X_bsl (zs := [(1 : El 16)]) (by rfl) (by rfl) fun s1 w2 o1 hB => ?_
  have B := hB
  have S1 := hB.size
  clear hB
  simp (maxSteps := 1000000) (disch := omega) only [WS, List.getElem_cons_zero, List.getElem_cons_succ, Option.isNone_some, Option.isNone_none, List.getD_cons_zero, List.getD_cons_succ, I.at, atL, atO, atP, evp, evs, retV, ↓reduceIte, Nat.reduceEqDiff, reduceCtorEq, AS]
  refine X_bsl (zs := [hd s1]) (fill1 o1.sl) (by rfl) fun v1 w3 ov hB => ?_
  have b1 := Bas.one o1 (by simp) S1 hB ov
  clear o1 ov
  have B := B.trans (hB.mono B.size)
  clear hB
  simp (maxSteps := 1000000) (disch := omega) only [WS, List.getElem_cons_zero, List.getElem_cons_succ, Option.isNone_some, Option.isNone_none, List.getD_cons_zero, List.getD_cons_succ, I.at, atL, atO, atP, evp, evs, retV, ↓reduceIte, Nat.reduceEqDiff, reduceCtorEq, AS]
  refine loop_of (fun t w' => t 0 = .int .i64 ((2 ^ k : Nat) : Int) ∧ RowKit.Below w.heap.size w w' ∧ ∃ (i : Nat) (v : Value) (hs : List Hd) (L : Nat → List (El 16)), t 4 = .int .i64 (i : Int) ∧ i ≤ k ∧ t 3 = v ∧ Bas w.heap.size w' v hs L ∧ hs.length = 2 ^ i ∧
      ∀ j, j < 2 ^ i → co (L j) = xP k j ∧ (L j).length ≤ j + 1) (fun t _ => k - (toI (t 4)).toNat)
    ⟨by simp only [WS, List.getElem_cons_zero, List.getElem_cons_succ, Option.isNone_some, Option.isNone_none, List.getD_cons_zero, List.getD_cons_succ, I.at, atL, atO, atP, evp, evs, retV, ↓reduceIte, Nat.reduceEqDiff, reduceCtorEq], B, 0, v1, [hd s1], _, rfl, by omega, by simp only [WS, List.getElem_cons_zero, List.getElem_cons_succ, Option.isNone_some, Option.isNone_none, List.getD_cons_zero, List.getD_cons_succ, I.at, atL, atO, atP, evp, evs, retV, ↓reduceIte, Nat.reduceEqDiff, reduceCtorEq], b1, rfl, fun j hj => by
      obtain rfl : j = 0 := by simpa using hj
      exact ⟨by rw [co_one1, xP_at (i := 0) (by omega) (by omega)]; rfl, by simp⟩⟩ ?_
  clear B b1 S1
  rintro t w4 ⟨t0, B, i, v, hs, L, t4, hi, t3, b1, hl, hL⟩
  have hi0 := Nat.two_pow_pos i
  have hik8 : 2 ^ i ≤ 2 ^ k := Nat.pow_le_pow_right (by omega) hi
  have hne : hs ≠ [] := by rintro rfl; simp at hl; omega
  by_cases hlt : i < k
  · have hik : 2 ^ i < 2 ^ k := Nat.pow_lt_pow_right (by omega) hlt
    have hp1 : 2 ^ (i + 1) = 2 * 2 ^ i := by rw [Nat.pow_succ, Nat.mul_comm]
    have hik1 : 2 ^ (i + 1) ≤ 2 ^ k := Nat.pow_le_pow_right (by omega) hlt
    have hlt2 : ((hs.length : Int) < ((2 ^ k : Nat) : Int)) := by omega
    simp (maxSteps := 1000000) (disch := omega) only [WS, List.getElem_cons_zero, List.getElem_cons_succ, Option.isNone_some, Option.isNone_none, List.getD_cons_zero, List.getD_cons_succ, I.at, atL, atO, atP, evp, evs, retV, ↓reduceIte, Nat.reduceEqDiff, reduceCtorEq, AS, t0, t3, t4, b1.own.sl.Xlen, hlt2]
    refine X_call0 ((culletref03_ElementsTo_spec w4 i (by omega)).mono ?_)
    rintro se w5 ⟨oe, hB⟩
    have oe := oe.sl
    have b1 := b1.up hB
    have B := B.trans (hB.mono B.size)
    clear hB
    simp (maxSteps := 1000000) (disch := omega) only [WS, List.getElem_cons_zero, List.getElem_cons_succ, Option.isNone_some, Option.isNone_none, List.getD_cons_zero, List.getD_cons_succ, I.at, atL, atO, atP, evp, evs, retV, ↓reduceIte, Nat.reduceEqDiff, reduceCtorEq, AS, t0, t3, t4]
    refine X_call0 ((culletref04_Vanishing_w_spec w5 se (wls (2 ^ i)) oe (by rw [wls_len]; omega)).mono ?_)
    rintro _ w6 ⟨hB, ⟨-, sv, ms, rfl, ov, msl, msc⟩ | ⟨hbad, -⟩⟩
    rotate_left
    · rw [wls_len] at hbad; omega
    rw [wls_len] at msl
    rw [show wls (2 ^ i) = (List.range (2 ^ i)).map wel from rfl, vps_wel i (by omega)] at msc
    have hoff : ∀ b, Fw.blk sv = some b → Off v hs b := fun b hb => b1.off (Or.inr (ov.blk b hb).1)
    have ovs := ov.sl
    clear ov oe
    have b1 := b1.up hB
    have B := B.trans (hB.mono B.size)
    clear hB
    simp (maxSteps := 1000000) (disch := omega) only [WS, List.getElem_cons_zero, List.getElem_cons_succ, Option.isNone_some, Option.isNone_none, List.getD_cons_zero, List.getD_cons_succ, I.at, atL, atO, atP, evp, evs, retV, ↓reduceIte, Nat.reduceEqDiff, reduceCtorEq, AS, t0, t3, t4, b1.own.sl.Xlen, hl]
    refine loop_of (fun t w' => t 0 = .int .i64 ((2 ^ k : Nat) : Int) ∧ t 4 = .int .i64 (i : Int) ∧ t 5 = sv ∧ t 7 = .int .i64 ((2 ^ i : Nat) : Int) ∧ RowKit.Below w.heap.size w w' ∧ Sl w' sv ms ∧
          ∃ (j : Nat) (v : Value) (hs2 : List Hd) (L : Nat → List (El 16)), t 8 = .int .i64 (j : Int) ∧ j ≤ 2 ^ i ∧ t 3 = v ∧ Bas w.heap.size w' v hs2 L ∧ (∀ b, Fw.blk sv = some b → Off v hs2 b) ∧ hs2.length = 2 ^ i + j ∧ ∀ u, u < 2 ^ i + j → co (L u) = xP k u ∧ (L u).length ≤ u + 1) (fun t _ => 2 ^ i - (toI (t 8)).toNat)
        ⟨by simp only [WS, List.getElem_cons_zero, List.getElem_cons_succ, Option.isNone_some, Option.isNone_none, List.getD_cons_zero, List.getD_cons_succ, I.at, atL, atO, atP, evp, evs, retV, ↓reduceIte, Nat.reduceEqDiff, reduceCtorEq]; exact t0, by simp only [WS, List.getElem_cons_zero, List.getElem_cons_succ, Option.isNone_some, Option.isNone_none, List.getD_cons_zero, List.getD_cons_succ, I.at, atL, atO, atP, evp, evs, retV, ↓reduceIte, Nat.reduceEqDiff, reduceCtorEq]; exact t4, by simp only [WS, List.getElem_cons_zero, List.getElem_cons_succ, Option.isNone_some, Option.isNone_none, List.getD_cons_zero, List.getD_cons_succ, I.at, atL, atO, atP, evp, evs, retV, ↓reduceIte, Nat.reduceEqDiff, reduceCtorEq], by simp only [WS, List.getElem_cons_zero, List.getElem_cons_succ, Option.isNone_some, Option.isNone_none, List.getD_cons_zero, List.getD_cons_succ, I.at, atL, atO, atP, evp, evs, retV, ↓reduceIte, Nat.reduceEqDiff, reduceCtorEq], B, ovs, 0, v, hs, L, rfl, by omega, by simp only [WS, List.getElem_cons_zero, List.getElem_cons_succ, Option.isNone_some, Option.isNone_none, List.getD_cons_zero, List.getD_cons_succ, I.at, atL, atO, atP, evp, evs, retV, ↓reduceIte, Nat.reduceEqDiff, reduceCtorEq]; exact t3, b1, hoff, by omega, hL⟩ ?_
    clear B b1 ovs t0 t3 t4 hoff hne
    rintro t w8 ⟨t0, t4, t5, t7, B, ovs, j, v, hs2, L2, t8, hj, t3, b2, hoff, hl2, hL2⟩
    by_cases hji : j < 2 ^ i
    · have jh2 : j < hs2.length := by omega
      have hrow := (b2.get jh2).sl
      obtain ⟨lj1, lj2⟩ := hL2 j (by omega)
      simp (maxSteps := 1000000) (disch := omega) only [WS, List.getElem_cons_zero, List.getElem_cons_succ, Option.isNone_some, Option.isNone_none, List.getD_cons_zero, List.getD_cons_succ, I.at, atL, atO, atP, evp, evs, retV, ↓reduceIte, Nat.reduceEqDiff, reduceCtorEq, AS, t0, t3, t4, t5, t7, t8, b2.own.sl.Xix jh2, b2.own.sl.Xld jh2]
      refine X_call0 ((culletref04_Mul_w_spec w8 (Cell.v hs2[j]) sv (L2 j) ms hrow ovs (by omega) (by omega)).mono ?_)
      rintro _ w9 ⟨hB, ⟨-, -, sq, lq, rfl, oq, tq, cq, -⟩ | ⟨hbad, -⟩⟩
      rotate_left
      · exact absurd ⟨by omega, by omega⟩ hbad
      have hw8 := hB.size
      have hx : co lq = xP k (2 ^ i + j) := by
        rw [cq, lj1, msc, xP_at (i := i + 1) (j := 2 ^ i + j) (by omega) (by omega), xP_high, xP_at hji (by omega)]
      have hlq : lq.length ≤ 2 ^ i + j + 1 := by
        rw [len_tr tq]
        exact tln_dg_le (by rw [hx]; exact xP_dg k _ (by omega))
      have hqne : lq ≠ [] := by
        rintro rfl
        have h1 := xP_top k (2 ^ i + j) (by omega)
        rw [← hx] at h1
        exact El.one_ne h1.symm
      simp (maxSteps := 1000000) (disch := omega) only [WS, List.getElem_cons_zero, List.getElem_cons_succ, Option.isNone_some, Option.isNone_none, List.getD_cons_zero, List.getD_cons_succ, I.at, atL, atO, atP, evp, evs, retV, ↓reduceIte, Nat.reduceEqDiff, reduceCtorEq, AS, t0, t3, t4, t5, t7, t8]
      refine X_bsl (zs := [hd sq]) (fill1 oq.sl) (by rfl) fun sx w10 ox hB2 => ?_
      have hB12 := hB.trans (hB2.mono hw8)
      have hw10 := hB2.size
      simp (maxSteps := 1000000) (disch := omega) only [WS, List.getElem_cons_zero, List.getElem_cons_succ, Option.isNone_some, Option.isNone_none, List.getD_cons_zero, List.getD_cons_succ, I.at, atL, atO, atP, evp, evs, retV, ↓reduceIte, Nat.reduceEqDiff, reduceCtorEq, AS, t0, t3, t4, t5, t7, t8]
      refine ((b2.own).up hB12).Xapp2 ox.sl (Nat.le_trans B.size hB12.size) (by simp only [List.length_singleton, maxBytes]; omega) (by simp only [List.length_singleton]; omega) fun v' w11 ov' hg => ?_
      have hne2 : hs2 ≠ [] := by rintro h; rw [h] at jh2; simp at jh2
      have hpush := b2.push hne2 B.size hB oq hqne hB2 hg ov'
      have hvb : ∀ b, Fw.blk v = some b → w.heap.size ≤ b ∧ b < w8.heap.size := b2.own.blk
      obtain ⟨vb, hvb2, hvb3⟩ := b2.own.sl.blk_lt hne2
      have ovs2 : Sl w11 sv ms := by
        have h1 := ovs.up hB12
        rcases hg with ⟨-, hg⟩ | ⟨-, hg⟩
        · refine h1.grown hg (Or.inl ?_)
          rw [hvb2]
          intro e
          exact (hoff vb e).2 hvb2
        · exact h1.up hg
      have hoff2 : ∀ b, Fw.blk sv = some b → Off v' (hs2 ++ [hd sq]) b := fun b hb => by
        obtain ⟨c, hc, hclt⟩ := ovs.blk_lt (by rintro rfl; simp at msl)
        obtain rfl : c = b := by rw [hb] at hc; cases hc; rfl
        refine ⟨fun u hu e2 => ?_, fun e2 => ?_⟩
        · by_cases hul : u < hs2.length
          · rw [Hj_app hul] at e2
            exact (hoff c hb).1 u hul e2
          · obtain rfl : u = hs2.length := by simp at hu hul ⊢; omega
            rw [Hj_last, oq.sl.hd.1] at e2
            have := (oq.blk c e2).1
            omega
        · rcases hg with ⟨h1, -⟩ | ⟨h1, -⟩
          · rw [h1] at e2; exact (hoff c hb).2 e2
          · have := h1 c e2; omega
      have B2 : RowKit.Below w.heap.size w w11 := hg.below (B.trans (hB12.mono B.size)) (Nat.le_trans B.size hB12.size) fun b hb => (hvb b hb).1
      simp (maxSteps := 1000000) (disch := omega) only [WS, List.getElem_cons_zero, List.getElem_cons_succ, Option.isNone_some, Option.isNone_none, List.getD_cons_zero, List.getD_cons_succ, I.at, atL, atO, atP, evp, evs, retV, ↓reduceIte, Nat.reduceEqDiff, reduceCtorEq, AS, t0, t3, t4, t5, t7, t8]
      refine ⟨⟨B2, ovs2, j + 1, v', _, _, rfl, by omega, rfl, hpush, hoff2, by simp at hl2 ⊢; omega, fun u hu => ?_⟩, by omega⟩
      by_cases hul : u < 2 ^ i + j
      · rw [if_neg (by omega)]; exact hL2 u hul
      · obtain rfl : u = 2 ^ i + j := by omega
        rw [if_pos hl2.symm]; exact ⟨hx, hlq⟩
    · obtain rfl : j = 2 ^ i := by omega
      simp (maxSteps := 1000000) (disch := omega) only [WS, List.getElem_cons_zero, List.getElem_cons_succ, Option.isNone_some, Option.isNone_none, List.getD_cons_zero, List.getD_cons_succ, I.at, atL, atO, atP, evp, evs, retV, ↓reduceIte, Nat.reduceEqDiff, reduceCtorEq, AS, t0, t3, t4, t5, t7, t8]
      exact ⟨⟨B, i + 1, v, _, L2, rfl, by omega, rfl, b2, by rw [hl2, hp1]; omega, fun u hu => hL2 u (by rw [hp1] at hu; omega)⟩, by omega⟩
  · obtain rfl : i = k := by omega
    have hlt2 : ¬ ((hs.length : Int) < ((2 ^ i : Nat) : Int)) := by omega
    simp (maxSteps := 1000000) (disch := omega) only [WS, List.getElem_cons_zero, List.getElem_cons_succ, Option.isNone_some, Option.isNone_none, List.getD_cons_zero, List.getD_cons_succ, I.at, atL, atO, atP, evp, evs, retV, ↓reduceIte, Nat.reduceEqDiff, reduceCtorEq, AS, t0, t3, t4, b1.own.sl.Xlen, hlt2, decide_false]
    exact ⟨B, hs, L, b1, hl, hL⟩
theorem culletref13_ToMonomials_spec (w : World) (s : Value) (l : List (El 16)) (h : Sl w s l) (hb : l.length ≤ 70368744175616) : CallV Try.prog 53 [s] w fun v w' => RowKit.Below w.heap.size w w' ∧
    ((∃ k, k ≤ 8 ∧ l.length = 2 ^ k ∧ ∃ sv m, v = .tuple #[sv, .int .i64 0] ∧ Ow w.heap.size w' sv m ∧ m.length = 2 ^ k ∧ co m = mP k (co l).c (2 ^ k)) ∨ (¬ (1 ≤ l.length ∧ l.length ≤ 256 ∧ l.length &&& (l.length - 1) = 0) ∧ v = .tuple #[.slice none 0 0, .int .i64 130])) := by
  refine run_culletref13_ToMonomials (by simp) ?_
  simp only [c_culletref13_ToMonomials, WS, List.getElem_cons_zero, List.getElem_cons_succ, Option.isNone_some, Option.isNone_none, List.getD_cons_zero, List.getD_cons_succ, I.at, atL, atO, atP, evp, evs, retV, ↓reduceIte, Nat.reduceEqDiff, reduceCtorEq, h.Xlen]
  refine X_call0 ((culletref13_power_spec w l.length 8 (by omega) hb).mono ?_)
  rintro _ w ⟨rfl, rfl⟩
  rw [show 2 ^ 8 = 256 from rfl]
  by_cases hp : 1 ≤ l.length ∧ l.length ≤ 256 ∧ l.length &&& (l.length - 1) = 0
  rotate_left
  · simp (maxSteps := 1000000) (disch := omega) only [WS, List.getElem_cons_zero, List.getElem_cons_succ, Option.isNone_some, Option.isNone_none, List.getD_cons_zero, List.getD_cons_succ, I.at, atL, atO, atP, evp, evs, retV, ↓reduceIte, Nat.reduceEqDiff, reduceCtorEq, AS]
    exact ⟨RowKit.Below.refl _ _, Or.inr hp⟩
  obtain ⟨k, hk, hlk⟩ := pow_of_and8 hp
  have hd : decide (1 ≤ l.length ∧ l.length ≤ 256 ∧ l.length &&& (l.length - 1) = 0) = true := decide_eq_true hp
  rw [hlk] at hd hp
  have h0 := Nat.two_pow_pos k
  have h8 : 2 ^ k ≤ 256 := hp.2.1
  clear hp
  have hbig : 2 * 2 ^ k ≤ maxBytes := by simp only [maxBytes]; omega
  simp (maxSteps := 1000000) (disch := omega) only [WS, List.getElem_cons_zero, List.getElem_cons_succ, Option.isNone_some, Option.isNone_none, List.getD_cons_zero, List.getD_cons_succ, I.at, atL, atO, atP, evp, evs, retV, ↓reduceIte, Nat.reduceEqDiff, reduceCtorEq, AS, hd, h.Xlen, hlk]
  refine X_call0 ((culletref13_members_spec w k hk).mono ?_)
  rintro sb w2 ⟨hB, hs, L, b1, hl, hL⟩
  have hoffR : ∀ b, w2.heap.size ≤ b → Off sb hs b := fun b hb => b1.off (Or.inr hb)
  have B := hB
  clear hB
  simp (maxSteps := 1000000) (disch := omega) only [WS, List.getElem_cons_zero, List.getElem_cons_succ, Option.isNone_some, Option.isNone_none, List.getD_cons_zero, List.getD_cons_succ, I.at, atL, atO, atP, evp, evs, retV, ↓reduceIte, Nat.reduceEqDiff, reduceCtorEq, AS, (h.up B).Xlen, hlk]
  refine X_mks (x := (0 : El 16)) hbig (by omega) fun sv w1 ov hB => ?_
  have hvn : Fw.blk sv ≠ none := ov.bne (by intro e; have := congrArg List.length e; simp at this)
  have hoff : ∀ b, Fw.blk sv = some b → Off sb hs b := fun b hb => hoffR b (ov.blk b hb).1
  have ov := ov.mono B.size
  have b1 := b1.up hB
  have B := B.trans (hB.mono B.size)
  clear hB
  simp (maxSteps := 1000000) (disch := omega) only [WS, List.getElem_cons_zero, List.getElem_cons_succ, Option.isNone_some, Option.isNone_none, List.getD_cons_zero, List.getD_cons_succ, I.at, atL, atO, atP, evp, evs, retV, ↓reduceIte, Nat.reduceEqDiff, reduceCtorEq, AS]
  refine loop_of (fun t w' => t 0 = s ∧ t 4 = sb ∧ t 5 = sv ∧ RowKit.Below w.heap.size w w' ∧ Bas w.heap.size w' sb hs L ∧ ∃ (j : Nat) (m : List (El 16)), t 6 = .int .i64 (j : Int) ∧ j ≤ 2 ^ k ∧ Ow w.heap.size w' sv m ∧ m.length = 2 ^ k ∧ co m = mP k (co l).c j)
    (fun t _ => 2 ^ k - (toI (t 6)).toNat) ⟨by simp only [WS, List.getElem_cons_zero, List.getElem_cons_succ, Option.isNone_some, Option.isNone_none, List.getD_cons_zero, List.getD_cons_succ, I.at, atL, atO, atP, evp, evs, retV, ↓reduceIte, Nat.reduceEqDiff, reduceCtorEq], by simp only [WS, List.getElem_cons_zero, List.getElem_cons_succ, Option.isNone_some, Option.isNone_none, List.getD_cons_zero, List.getD_cons_succ, I.at, atL, atO, atP, evp, evs, retV, ↓reduceIte, Nat.reduceEqDiff, reduceCtorEq], by simp only [WS, List.getElem_cons_zero, List.getElem_cons_succ, Option.isNone_some, Option.isNone_none, List.getD_cons_zero, List.getD_cons_succ, I.at, atL, atO, atP, evp, evs, retV, ↓reduceIte, Nat.reduceEqDiff, reduceCtorEq], B, b1, 0, _, rfl, by omega, ov, List.length_replicate .., by rw [co_replicate]; rfl⟩ ?_
  clear B b1 ov
  rintro t w3 ⟨t0, t4, t5, B, b1, j, m, t6, hj, ov, ml, mc⟩
  by_cases hjk : j < 2 ^ k
  · have jl : j < l.length := by omega
    have jh : j < hs.length := by omega
    obtain ⟨lj2, lj1⟩ := hL j hjk
    have hm1 : mP k (co l).c (j + 1) = mP k (co l).c j + smP l[j] (xP k j) := by rw [← co_get l jl]; rfl
    simp (maxSteps := 1000000) (disch := omega) only [WS, List.getElem_cons_zero, List.getElem_cons_succ, Option.isNone_some, Option.isNone_none, List.getD_cons_zero, List.getD_cons_succ, I.at, atL, atO, atP, evp, evs, retV, ↓reduceIte, Nat.reduceEqDiff, reduceCtorEq, AS, t0, t4, t5, t6, (h.up B).Xlen, hlk]
    refine loop_of (fun t w' => t 0 = s ∧ t 4 = sb ∧ t 5 = sv ∧ t 6 = .int .i64 (j : Int) ∧ RowKit.Below w.heap.size w w' ∧ Bas w.heap.size w' sb hs L ∧
          ∃ (e : Nat) (m : List (El 16)), t 7 = .int .i64 (e : Int) ∧ e ≤ (L j).length ∧ Ow w.heap.size w' sv m ∧ m.length = 2 ^ k ∧ ∀ u, (co m).c u = (mP k (co l).c j).c u + (if u < e then l[j] * (xP k j).c u else 0)) (fun t _ => (L j).length - (toI (t 7)).toNat)
        ⟨by simp only [WS, List.getElem_cons_zero, List.getElem_cons_succ, Option.isNone_some, Option.isNone_none, List.getD_cons_zero, List.getD_cons_succ, I.at, atL, atO, atP, evp, evs, retV, ↓reduceIte, Nat.reduceEqDiff, reduceCtorEq]; exact t0, by simp only [WS, List.getElem_cons_zero, List.getElem_cons_succ, Option.isNone_some, Option.isNone_none, List.getD_cons_zero, List.getD_cons_succ, I.at, atL, atO, atP, evp, evs, retV, ↓reduceIte, Nat.reduceEqDiff, reduceCtorEq]; exact t4, by simp only [WS, List.getElem_cons_zero, List.getElem_cons_succ, Option.isNone_some, Option.isNone_none, List.getD_cons_zero, List.getD_cons_succ, I.at, atL, atO, atP, evp, evs, retV, ↓reduceIte, Nat.reduceEqDiff, reduceCtorEq]; exact t5, by simp only [WS, List.getElem_cons_zero, List.getElem_cons_succ, Option.isNone_some, Option.isNone_none, List.getD_cons_zero, List.getD_cons_succ, I.at, atL, atO, atP, evp, evs, retV, ↓reduceIte, Nat.reduceEqDiff, reduceCtorEq]; exact t6, B, b1, 0, m, rfl, by omega, ov, ml, fun u => by rw [if_neg (by omega), El.add_zero, mc]⟩ ?_
    clear t0 t4 t5 t6 B b1 ov ml mc
    rintro t w4 ⟨t0, t4, t5, t6, B, b1, e, m, t7, he, ov, ml, mc⟩
    have hrow := b1.get jh
    by_cases hek : e < (L j).length
    · by_cases hz : l[j] = 0
      · have d1 : (!decide ((l[j].v.toNat : Int) = 0)) = false := by rw [decide_eq_true ((el_zero _).mpr hz)]; rfl
        simp (maxSteps := 1000000) (disch := omega) only [WS, List.getElem_cons_zero, List.getElem_cons_succ, Option.isNone_some, Option.isNone_none, List.getD_cons_zero, List.getD_cons_succ, I.at, atL, atO, atP, evp, evs, retV, ↓reduceIte, Nat.reduceEqDiff, reduceCtorEq, AS, t0, t4, t5, t6, t7, b1.own.sl.Xix jh, b1.own.sl.Xld jh, hrow.sl.Xlen, (h.up B).Xix jl, (h.up B).Xld jl, cell_e16, d1]
        refine ⟨⟨B, b1, j + 1, m, rfl, by omega, ov, ml, ?_⟩, by omega⟩
        rw [hm1, hz, zero_smP, Ps.add_zero]
        refine Ps.ext fun u => ?_
        rw [mc u, hz]
        split
        · rw [El.zero_mul, El.add_zero]
        · rw [El.add_zero]
      · have d1 : (!decide ((l[j].v.toNat : Int) = 0)) = true := by rw [decide_eq_false (fun e => hz ((el_zero _).mp e))]; rfl
        have em : e < m.length := by omega
        simp (maxSteps := 1000000) (disch := omega) only [WS, List.getElem_cons_zero, List.getElem_cons_succ, Option.isNone_some, Option.isNone_none, List.getD_cons_zero, List.getD_cons_succ, I.at, atL, atO, atP, evp, evs, retV, ↓reduceIte, Nat.reduceEqDiff, reduceCtorEq, AS, t0, t4, t5, t6, t7, b1.own.sl.Xix jh, b1.own.sl.Xld jh, hrow.sl.Xlen, (h.up B).Xix jl, (h.up B).Xld jl, cell_e16, d1]
        refine WP_dops ?_
        have hvd := ov.sl.drew
        have hsd := (h.up B).drew
        have hbd := b1.own.sl.drew
        have hrd := hrow.sl.drew
        have see : Fw.sees Try.prog (.ld (.c (elP sv e))) w4.drew (.int .u16 (m[e].v.toNat : Int)) = True := hvd.sees em Try.prog
        have see2 : Fw.sees Try.prog (.ld (.c (elP s j))) w4.drew (.int .u16 (l[j].v.toNat : Int)) = True := hsd.sees jl Try.prog
        have see3 : Fw.sees Try.prog (.ld (.c (elP (Cell.v hs[j]) e))) w4.drew (.int .u16 ((L j)[e].v.toNat : Int)) = True := hrd.sees hek Try.prog
        simp (maxSteps := 1000000) (disch := omega) only [ES, List.mem_cons, List.not_mem_nil, implies_true, forall_const, WS, List.getElem_cons_zero, List.getElem_cons_succ, Option.isNone_some, Option.isNone_none, List.getD_cons_zero, List.getD_cons_succ, I.at, atL, atO, atP, evp, evs, retV, ↓reduceIte, Nat.reduceEqDiff, reduceCtorEq, AS, t0, t4, t5, t6, t7, hvd.Eix em, hvd.Eld em, hsd.Eix jl, hsd.Eld jl, hbd.Eix jh, hbd.Eld jh, hrd.Eix hek, hrd.Eld hek, cell_e16]
        refine E_call0 ((culletref03_Mul_spec w4.drew l[j] (L j)[e]).mono ?_)
        rintro _ w5 ⟨rfl, rfl⟩
        simp (maxSteps := 1000000) (disch := omega) only [ES, List.mem_cons, List.not_mem_nil, implies_true, forall_const, WS, List.getElem_cons_zero, List.getElem_cons_succ, Option.isNone_some, Option.isNone_none, List.getD_cons_zero, List.getD_cons_succ, I.at, atL, atO, atP, evp, evs, retV, ↓reduceIte, Nat.reduceEqDiff, reduceCtorEq, AS, see, see2, see3, xor16, hvd.Eix em, t0, t4, t5, t6, t7]
        refine Ow.Est ov.drew em (m[e] + l[j] * (L j)[e]) fun w6 ov6 hg6 => ?_
        simp (maxSteps := 1000000) (disch := omega) only [ES, List.mem_cons, List.not_mem_nil, implies_true, forall_const, WS, List.getElem_cons_zero, List.getElem_cons_succ, Option.isNone_some, Option.isNone_none, List.getD_cons_zero, List.getD_cons_succ, I.at, atL, atO, atP, evp, evs, retV, ↓reduceIte, Nat.reduceEqDiff, reduceCtorEq, AS, t0, t4, t5, t6, t7]
        refine ⟨⟨B.grown (grown_of_drew hg6) B.size fun b hb => (ov.blk b hb).1, b1.grw hoff hvn (grown_of_drew hg6), e + 1, _, rfl, by omega, ov6, by simp [ml], fun u => ?_⟩, by omega⟩
        rw [co_set _ em, mc u]
        by_cases hu : u = e
        · subst hu
          rw [if_pos rfl, if_pos (by omega), ← co_get m em, mc u, if_neg (by omega), El.add_zero, ← lj2, co_get (L j) hek]
        · rw [if_neg hu]
          congr 1
          by_cases hue : u < e
          · rw [if_pos hue, if_pos (by omega)]
          · rw [if_neg hue, if_neg (by omega)]
    · obtain rfl : e = (L j).length := by omega
      simp (maxSteps := 1000000) (disch := omega) only [WS, List.getElem_cons_zero, List.getElem_cons_succ, Option.isNone_some, Option.isNone_none, List.getD_cons_zero, List.getD_cons_succ, I.at, atL, atO, atP, evp, evs, retV, ↓reduceIte, Nat.reduceEqDiff, reduceCtorEq, AS, t0, t4, t5, t6, t7, b1.own.sl.Xix jh, b1.own.sl.Xld jh, hrow.sl.Xlen]
      refine ⟨⟨B, b1, j + 1, m, rfl, by omega, ov, ml, ?_⟩, by omega⟩
      rw [hm1]
      refine Ps.ext fun u => ?_
      rw [mc u, Ps.add_c]
      congr 1
      show _ = l[j] * (xP k j).c u
      by_cases hu : u < (L j).length
      · rw [if_pos hu]
      · rw [if_neg hu, ← lj2, co_dg (L j) u (by omega), El.mul_zero]
  · obtain rfl : j = 2 ^ k := by omega
    simp (maxSteps := 1000000) (disch := omega) only [WS, List.getElem_cons_zero, List.getElem_cons_succ, Option.isNone_some, Option.isNone_none, List.getD_cons_zero, List.getD_cons_succ, I.at, atL, atO, atP, evp, evs, retV, ↓reduceIte, Nat.reduceEqDiff, reduceCtorEq, AS, t0, t4, t5, t6, (h.up B).Xlen, hlk]
    exact ⟨B, Or.inl ⟨k, hk, rfl, sv, m, rfl, ov, ml, mc⟩⟩
end Go.Proofs.Ytcnabolainmaeaa.Fw
