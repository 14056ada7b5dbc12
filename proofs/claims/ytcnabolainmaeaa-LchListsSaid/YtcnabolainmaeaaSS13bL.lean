import Derived.Test.YtcnabolainmaeaaProg
import Derived.Test.YtcnabolainmaeaaFwTL
import Derived.Test.YtcnabolainmaeaaSS13aL
import Derived.Test.YtcnabolainmaeaaGfLL
import Derived.Test.YtcnabolainmaeaaGfNL
set_option linter.all false
set_option linter.unusedVariables false
set_option linter.unusedSimpArgs false
set_option maxRecDepth 100000
set_option maxHeartbeats 1000000
namespace Go.Proofs.Ytcnabolainmaeaa.Fw
open Go Go.Fw Go.Proofs
attribute [local irreducible] stepI
def c_lch_Eval : C := .seq (.ops [⟨0, (some 4), none, .mov (.c (.int .u16 0)), []⟩, ⟨1, (some 5), none, .mov (.c (.int .i64 0)), []⟩]) (.seq (.seq (.ops [⟨0, (some 10), none, .mov (.t 0), []⟩, ⟨1, (some 11), none, .len (.t 10), []⟩, ⟨2, (some 12), none, .bin .gtr (.t 11) (.c (.int .i64 65536)), []⟩]) (.ite (.t 12) (.seq (.ops [⟨0, (some 4), none, .mov (.c (.int .u16 0)), []⟩, ⟨1, (some 5), none, .mov (.c (.int .i64 5)), []⟩]) .ret) .skip)) (.seq (.seq (.ops [⟨0, (some 13), none, .mov (.t 0), []⟩, ⟨1, (some 14), none, .len (.t 13), []⟩, ⟨2, (some 15), none, .bin .eql (.t 14) (.c (.int .i64 0)), []⟩]) (.ite (.t 15) (.seq (.ops [⟨0, (some 4), none, .mov (.c (.int .u16 0)), []⟩, ⟨1, (some 5), none, .mov (.c (.int .i64 0)), []⟩]) .ret) .skip)) (.seq (.ops [⟨0, (some 16), none, .mov (.t 0), []⟩, ⟨1, (some 17), none, .app 22 2 [.int .u16 0] (.c (.slice none 0 0)) (.t 16), []⟩, ⟨2, (some 6), none, .mov (.t 17), []⟩]) (.seq (.block 0 (.loop (.seq (.seq (.ops [⟨0, (some 18), none, .mov (.t 6), []⟩, ⟨1, (some 19), none, .len (.t 18), []⟩, ⟨2, (some 20), none, .bin .gtr (.t 19) (.c (.int .i64 1)), []⟩]) (.ite (.t 20) .skip (.exit 0))) (.block 1 (.seq (.ops [⟨0, (some 21), none, .mov (.t 6), []⟩, ⟨1, (some 22), none, .mov (.t 6), []⟩, ⟨2, (some 23), none, .len (.t 22), []⟩, ⟨3, (some 24), none, .bin .add (.t 23) (.c (.int .i64 1)), []⟩, ⟨4, (some 25), none, .bin .quo (.t 24) (.c (.int .i64 2)), []⟩, ⟨5, (some 26), none, .slc 1 (.t 21) none (some (.t 25)) none, []⟩, ⟨6, (some 7), none, .mov (.t 26), []⟩]) (.seq (.seq (.ops [⟨0, (some 27), none, .mov (.t 7), []⟩, ⟨1, (some 28), none, .len (.t 27), []⟩, ⟨2, (some 29), none, .mov (.c (.int .i64 0)), []⟩]) (.block 2 (.loop (.seq (.ops [⟨0, (some 30), none, .bin .lss (.t 29) (.t 28), []⟩]) (.seq (.ite (.t 30) .skip (.exit 2)) (.seq (.block 3 (.seq (.ops [⟨0, (some 31), none, .mov (.t 29), []⟩, ⟨1, (some 8), none, .mov (.t 31), []⟩]) (.seq (.ops [⟨0, (some 32), none, .mov (.t 6), []⟩, ⟨1, (some 33), none, .mov (.t 8), []⟩, ⟨2, (some 34), none, .bin .mul (.c (.int .i64 2)) (.t 33), []⟩, ⟨3, (some 35), none, .ixs 1 (.t 32) (.t 34), []⟩, ⟨4, (some 36), none, .ld (.t 35), []⟩, ⟨5, (some 9), none, .mov (.t 36), []⟩]) (.seq (.seq (.ops [⟨0, (some 37), none, .mov (.t 8), []⟩, ⟨1, (some 38), none, .bin .mul (.c (.int .i64 2)) (.t 37), []⟩, ⟨2, (some 39), none, .bin .add (.t 38) (.c (.int .i64 1)), []⟩, ⟨3, (some 40), none, .mov (.t 6), []⟩, ⟨4, (some 41), none, .len (.t 40), []⟩, ⟨5, (some 42), none, .bin .lss (.t 39) (.t 41), []⟩]) (.ite (.t 42) (.ops [⟨0, (some 43), none, .mov (.t 9), []⟩, ⟨1, (some 44), none, .mov (.t 1), []⟩, ⟨2, (some 45), none, .mov (.t 6), []⟩, ⟨3, (some 46), none, .mov (.t 8), []⟩, ⟨4, (some 47), none, .bin .mul (.c (.int .i64 2)) (.t 46), []⟩, ⟨5, (some 48), none, .bin .add (.t 47) (.c (.int .i64 1)), []⟩, ⟨6, (some 49), none, .ixs 1 (.t 45) (.t 48), []⟩, ⟨7, (some 50), none, .ld (.t 49), []⟩, ⟨8, (some 51), none, .call (.c (.func (.func 15) #[] #[])) [.t 44, .t 50], []⟩, ⟨9, (some 52), none, .bin .xor (.t 43) (.t 51), []⟩, ⟨10, (some 9), none, .mov (.t 52), []⟩]) .skip)) (.ops [⟨0, (some 53), none, .mov (.t 7), []⟩, ⟨1, (some 54), none, .mov (.t 8), []⟩, ⟨2, (some 55), none, .mov (.t 9), []⟩, ⟨3, (some 56), none, .ixs 1 (.t 53) (.t 54), []⟩, ⟨4, none, none, .st (.t 56) (.t 55), []⟩]))))) (.ops [⟨0, (some 57), none, .bin .add (.t 29) (.c (.int .i64 1)), []⟩, ⟨1, (some 29), none, .mov (.t 57), []⟩]))))))) (.seq (.ops [⟨0, (some 58), none, .mov (.t 7), []⟩, ⟨1, (some 6), none, .mov (.t 58), []⟩]) (.ops [⟨0, (some 59), none, .mov (.t 1), []⟩, ⟨1, (some 60), none, .mov (.t 1), []⟩, ⟨2, (some 61), none, .mov (.t 1), []⟩, ⟨3, (some 62), none, .call (.c (.func (.func 15) #[] #[])) [.t 60, .t 61], []⟩, ⟨4, (some 63), none, .bin .xor (.t 59) (.t 62), []⟩, ⟨5, (some 1), none, .mov (.t 63), []⟩])))))))) (.seq (.ops [⟨0, (some 64), none, .mov (.t 6), []⟩, ⟨1, (some 65), none, .ixs 1 (.t 64) (.c (.int .i64 0)), []⟩, ⟨2, (some 66), none, .ld (.t 65), []⟩, ⟨3, (some 4), none, .mov (.t 66), []⟩, ⟨4, (some 5), none, .mov (.c (.int .i64 0)), []⟩]) .ret)))))
attribute [irreducible] c_lch_Eval
theorem run_lch_Eval {args : List Value} {w : World} {K : Value → World → Prop} (hn : args.length ≤ 67) (h : WP Try.prog c_lch_Eval (endQ [.t 4, .t 5] K) (initT args) w) : CallV Try.prog 26 args w K :=
  call_of follows Try.func26 (by kernel_rfl) (by kernel_rfl) hn h
end Go.Proofs.Ytcnabolainmaeaa.Fw
namespace Go.Proofs.Ytcnabolainmaeaa.Fw
open Go Go.Fw
theorem evX_ext {k n : Nat} {f g : Nat → El 16} {x : El 16} (h : ∀ i, i < n → f i = g i) : evX k n f x = evX k n g x := by
  unfold evX
  exact esum_congr fun j hj => by rw [h j hj]
theorem evX_more {k n m : Nat} {f : Nat → El 16} {x : El 16} (h : ∀ i, n ≤ i → f i = 0) (hm : n ≤ m) : evX k m f x = evX k n f x := by
  obtain ⟨e, rfl⟩ : ∃ e, m = n + e := ⟨m - n, by omega⟩
  unfold evX
  rw [esum_append, esum_zero (n := e) (fun i _ => by rw [h _ (by omega), El.zero_mul]), El.add_zero]
theorem lch_Eval_spec (w : World) (s : Value) (l : List (El 16)) (x : El 16) (h : Sl w s l) (hb : l.length ≤ 70368744175616) :
    CallV Try.prog 26 [s, .int .u16 (x.v.toNat : Int)] w fun v w' => RowKit.Below w.heap.size w w' ∧ ((65536 < l.length ∧ v = .tuple #[.int .u16 0, .int .i64 5]) ∨ (l.length ≤ 65536 ∧ v = .tuple #[.int .u16 ((evX 16 l.length (co l).c x).v.toNat : Int), .int .i64 0])) := by
  refine run_lch_Eval (by simp) ?_
  simp only [c_lch_Eval, WS, List.getElem_cons_zero, List.getElem_cons_succ, Option.isNone_some, Option.isNone_none, List.getD_cons_zero, List.getD_cons_succ, I.at, atL, atO, atP, evp, evs, retV, ↓reduceIte, Nat.reduceEqDiff, reduceCtorEq]
  by_cases h1 : 65536 < l.length
  · simp (maxSteps := 1000000) (disch := omega) only [WS, List.getElem_cons_zero, List.getElem_cons_succ, Option.isNone_some, Option.isNone_none, List.getD_cons_zero, List.getD_cons_succ, I.at, atL, atO, atP, evp, evs, retV, ↓reduceIte, Nat.reduceEqDiff, reduceCtorEq, AS, h.Xlen]
    exact ⟨RowKit.Below.refl _ _, Or.inl (by omega)⟩
  by_cases h0 : l.length = 0
  · have e0 : evX 16 l.length (co l).c x = 0 := by rw [h0]; rfl
    rw [e0]
    simp (maxSteps := 1000000) (disch := omega) only [WS, List.getElem_cons_zero, List.getElem_cons_succ, Option.isNone_some, Option.isNone_none, List.getD_cons_zero, List.getD_cons_succ, I.at, atL, atO, atP, evp, evs, retV, ↓reduceIte, Nat.reduceEqDiff, reduceCtorEq, AS, h.Xlen]
    exact ⟨RowKit.Below.refl _ _, Or.inr ⟨by omega, rfl⟩⟩
  simp (maxSteps := 1000000) (disch := omega) only [WS, List.getElem_cons_zero, List.getElem_cons_succ, Option.isNone_some, Option.isNone_none, List.getD_cons_zero, List.getD_cons_succ, I.at, atL, atO, atP, evp, evs, retV, ↓reduceIte, Nat.reduceEqDiff, reduceCtorEq, AS, h.Xlen]
  refine (Ow.nil w.heap.size w).Xapp h (Nat.le_refl _) (by simp only [List.length_nil, maxBytes]; omega) (by simp only [List.length_nil]; omega) fun sv w1 ov hg hnear => ?_
  rw [List.nil_append] at ov
  have B : RowKit.Below w.heap.size w w1 := (RowKit.Below.refl _ _).grown hg (Nat.le_refl _) fun b hb => by simp [Fw.blk, Value.ownBlock] at hb
  clear hg hnear
  simp (maxSteps := 1000000) (disch := omega) only [WS, List.getElem_cons_zero, List.getElem_cons_succ, Option.isNone_some, Option.isNone_none, List.getD_cons_zero, List.getD_cons_succ, I.at, atL, atO, atP, evp, evs, retV, ↓reduceIte, Nat.reduceEqDiff, reduceCtorEq, AS]
  refine loop_of (fun t w' => RowKit.Below w.heap.size w w' ∧ ∃ (k : Nat) (sv : Value) (m : List (El 16)) (y : El 16), t 1 = .int .u16 (y.v.toNat : Int) ∧ t 6 = sv ∧ Ow w.heap.size w' sv m ∧ 1 ≤ m.length ∧ m.length ≤ 2 ^ k ∧ k ≤ 16 ∧ evX k m.length (co m).c y = evX 16 l.length (co l).c x) (fun t _ => match t 6 with | .slice _ n _ => n | _ => 0)
    ⟨B, 16, sv, l, x, by simp only [WS, List.getElem_cons_zero, List.getElem_cons_succ, Option.isNone_some, Option.isNone_none, List.getD_cons_zero, List.getD_cons_succ, I.at, atL, atO, atP, evp, evs, retV, ↓reduceIte, Nat.reduceEqDiff, reduceCtorEq], by simp only [WS, List.getElem_cons_zero, List.getElem_cons_succ, Option.isNone_some, Option.isNone_none, List.getD_cons_zero, List.getD_cons_succ, I.at, atL, atO, atP, evp, evs, retV, ↓reduceIte, Nat.reduceEqDiff, reduceCtorEq], ov, by omega, by simp; omega, by omega, rfl⟩ ?_
  clear B ov
  rintro t w2 ⟨B, k, sv, m, y, t1, t6, om, hm1, hmk, hk, hev⟩
  by_cases hlt : 1 < m.length
  · obtain ⟨k, rfl⟩ : ∃ j, k = j + 1 := by
      cases k with
      | zero => simp at hmk; omega
      | succ k => exact ⟨k, rfl⟩
    have hk16 := pow_le16' hk
    have hp2 : 2 ^ (k + 1) = 2 * 2 ^ k := by rw [Nat.pow_succ, Nat.mul_comm]
    have hh : ∃ hf, (m.length + 1) / 2 = hf := ⟨_, rfl⟩
    obtain ⟨hf, hh⟩ := hh
    have hf1 : 2 * hf ≤ m.length + 1 := by omega
    have hf2 : m.length ≤ 2 * hf := by omega
    have hfl : hf ≤ m.length := by omega
    have e1 : IntKind.i64.wrap (((m.length + 1 : Nat) : Int).tdiv 2) = (hf : Int) := by rw [show (2 : Int) = ((2 : Nat) : Int) from rfl, tdiv_nat, hh, wrap_64 _ (by omega)]
    have ltake : (m.take hf).length = hf := by rw [List.length_take]; omega
    simp (maxSteps := 1000000) (disch := omega) only [WS, List.getElem_cons_zero, List.getElem_cons_succ, Option.isNone_some, Option.isNone_none, List.getD_cons_zero, List.getD_cons_succ, I.at, atL, atO, atP, evp, evs, retV, ↓reduceIte, Nat.reduceEqDiff, reduceCtorEq, AS, t1, t6, om.sl.Xlen, X_quo, e1, show ((2 : Int) ≠ 0) = True from eq_true (by decide), om.sl.XslcHi hfl, (om.sub0 hfl).sl.Xlen, ltake]
    refine loop_of (fun t w' => t 1 = .int .u16 (y.v.toNat : Int) ∧ t 6 = sv ∧ t 7 = Fw.sub sv 0 hf ∧ t 28 = .int .i64 (hf : Int) ∧ RowKit.Below w.heap.size w w' ∧ ∃ (i : Nat) (m' : List (El 16)), t 29 = .int .i64 (i : Int) ∧ i ≤ hf ∧ Ow w.heap.size w' sv m' ∧ m'.length = m.length ∧ ∀ j, (co m').c j = if j < i then (co m).c (2 * j) + y * (co m).c (2 * j + 1) else (co m).c j)
      (fun t _ => hf - (toI (t 29)).toNat) ⟨by simp only [WS, List.getElem_cons_zero, List.getElem_cons_succ, Option.isNone_some, Option.isNone_none, List.getD_cons_zero, List.getD_cons_succ, I.at, atL, atO, atP, evp, evs, retV, ↓reduceIte, Nat.reduceEqDiff, reduceCtorEq]; exact t1, by simp only [WS, List.getElem_cons_zero, List.getElem_cons_succ, Option.isNone_some, Option.isNone_none, List.getD_cons_zero, List.getD_cons_succ, I.at, atL, atO, atP, evp, evs, retV, ↓reduceIte, Nat.reduceEqDiff, reduceCtorEq]; exact t6, by simp only [WS, List.getElem_cons_zero, List.getElem_cons_succ, Option.isNone_some, Option.isNone_none, List.getD_cons_zero, List.getD_cons_succ, I.at, atL, atO, atP, evp, evs, retV, ↓reduceIte, Nat.reduceEqDiff, reduceCtorEq], by simp only [WS, List.getElem_cons_zero, List.getElem_cons_succ, Option.isNone_some, Option.isNone_none, List.getD_cons_zero, List.getD_cons_succ, I.at, atL, atO, atP, evp, evs, retV, ↓reduceIte, Nat.reduceEqDiff, reduceCtorEq], B, 0, m, rfl, by omega, om, rfl, fun j => by rw [if_neg (by omega)]⟩ ?_
    clear B om t1 t6
    rintro t w3 ⟨t1, t6, t7, t28, B, i, m', t29, hi, om, hml, hco⟩
    by_cases hil : i < hf
    · have i1 : 2 * i < m'.length := by omega
      have i0 : i < m'.length := by omega
      have hel : elP (Fw.sub sv 0 hf) i = elP sv i := by rw [elP_sub om.sl (show 0 < hf by omega) (by omega), Nat.zero_add]
      have hsub := om.sub0 (show hf ≤ m'.length by omega)
      have lt2 : (m'.take hf).length = hf := by rw [List.length_take]; omega
      have hix := hsub.sl.Xix (k := .i64) (i := i) (by omega) Try.prog
      rw [hel] at hix
      have g0 : m'[2 * i] = (co m).c (2 * i) := by
        have := hco (2 * i)
        by_cases hz : i = 0
        · subst hz; rw [if_neg (by omega), co_get m' i1] at this; exact this
        · rw [if_neg (by omega), co_get m' i1] at this; exact this
      by_cases h21 : 2 * i + 1 < m.length
      · have i2 : 2 * i + 1 < m'.length := by omega
        have g1 : m'[2 * i + 1] = (co m).c (2 * i + 1) := by
          have := hco (2 * i + 1)
          rw [if_neg (by omega), co_get m' i2] at this; exact this
        simp (maxSteps := 1000000) (disch := omega) only [WS, List.getElem_cons_zero, List.getElem_cons_succ, Option.isNone_some, Option.isNone_none, List.getD_cons_zero, List.getD_cons_succ, I.at, atL, atO, atP, evp, evs, retV, ↓reduceIte, Nat.reduceEqDiff, reduceCtorEq, AS, t1, t6, t7, t28, t29, om.sl.Xlen, om.sl.Xix i1, om.sl.Xld i1, om.sl.Xix i2, om.sl.Xld i2, cell_e16]
        refine X_call0 ((gf16_Mul_spec w3 y m'[2 * i + 1]).mono ?_)
        rintro _ w4 ⟨rfl, rfl⟩
        simp (maxSteps := 1000000) (disch := omega) only [WS, List.getElem_cons_zero, List.getElem_cons_succ, Option.isNone_some, Option.isNone_none, List.getD_cons_zero, List.getD_cons_succ, I.at, atL, atO, atP, evp, evs, retV, ↓reduceIte, Nat.reduceEqDiff, reduceCtorEq, AS, t1, t6, t7, t28, t29, xor16, hix]
        refine Ow.Xst om i0 (m'[2 * i] + y * m'[2 * i + 1]) fun w5 om5 hg5 => ?_
        simp (maxSteps := 1000000) (disch := omega) only [WS, List.getElem_cons_zero, List.getElem_cons_succ, Option.isNone_some, Option.isNone_none, List.getD_cons_zero, List.getD_cons_succ, I.at, atL, atO, atP, evp, evs, retV, ↓reduceIte, Nat.reduceEqDiff, reduceCtorEq, AS, t1, t6, t7, t28, t29]
        refine ⟨⟨B.grown hg5 B.size fun b hb => (om.blk b hb).1, i + 1, _, rfl, by omega, om5, by simp [hml], fun j => ?_⟩, by omega⟩
        rw [co_set _ i0, hco j, g0, g1]
        by_cases hj : j = i
        · subst hj; rw [if_pos rfl, if_pos (by omega)]
        · rw [if_neg hj]
          by_cases hji : j < i
          · rw [if_pos hji, if_pos (by omega)]
          · rw [if_neg hji, if_neg (by omega)]
      · have z1 : (co m).c (2 * i + 1) = 0 := co_dg m _ (by omega)
        simp (maxSteps := 1000000) (disch := omega) only [WS, List.getElem_cons_zero, List.getElem_cons_succ, Option.isNone_some, Option.isNone_none, List.getD_cons_zero, List.getD_cons_succ, I.at, atL, atO, atP, evp, evs, retV, ↓reduceIte, Nat.reduceEqDiff, reduceCtorEq, AS, t1, t6, t7, t28, t29, om.sl.Xlen, om.sl.Xix i1, om.sl.Xld i1, hix]
        refine Ow.Xst om i0 (m'[2 * i]) fun w5 om5 hg5 => ?_
        simp (maxSteps := 1000000) (disch := omega) only [WS, List.getElem_cons_zero, List.getElem_cons_succ, Option.isNone_some, Option.isNone_none, List.getD_cons_zero, List.getD_cons_succ, I.at, atL, atO, atP, evp, evs, retV, ↓reduceIte, Nat.reduceEqDiff, reduceCtorEq, AS, t1, t6, t7, t28, t29]
        refine ⟨⟨B.grown hg5 B.size fun b hb => (om.blk b hb).1, i + 1, _, rfl, by omega, om5, by simp [hml], fun j => ?_⟩, by omega⟩
        rw [co_set _ i0, hco j, g0]
        by_cases hj : j = i
        · subst hj; rw [if_pos rfl, if_pos (by omega), z1, El.mul_zero, El.add_zero]
        · rw [if_neg hj]
          by_cases hji : j < i
          · rw [if_pos hji, if_pos (by omega)]
          · rw [if_neg hji, if_neg (by omega)]
    · obtain rfl : i = hf := by omega
      have hsub := om.sub0 (show i ≤ m'.length by omega)
      have lt2 : (m'.take i).length = i := by rw [List.length_take]; omega
      simp (maxSteps := 1000000) (disch := omega) only [WS, List.getElem_cons_zero, List.getElem_cons_succ, Option.isNone_some, Option.isNone_none, List.getD_cons_zero, List.getD_cons_succ, I.at, atL, atO, atP, evp, evs, retV, ↓reduceIte, Nat.reduceEqDiff, reduceCtorEq, AS, t1, t6, t7, t28, t29]
      refine X_call0 ((gf16_Mul_spec w3 y y).mono ?_)
      rintro _ w4 ⟨rfl, rfl⟩
      simp (maxSteps := 1000000) (disch := omega) only [WS, List.getElem_cons_zero, List.getElem_cons_succ, Option.isNone_some, Option.isNone_none, List.getD_cons_zero, List.getD_cons_succ, I.at, atL, atO, atP, evp, evs, retV, ↓reduceIte, Nat.reduceEqDiff, reduceCtorEq, AS, t1, t6, t7, t28, t29, xor16]
      refine ⟨⟨B, k, _, m'.take i, y + y * y, rfl, rfl, hsub, by omega, by omega, by omega, ?_⟩, ?_⟩
      · rw [← hev, lt2, show y + y * y = sq1 y from El.add_comm _ _, ← evX_more (n := m.length) (m := 2 * i) (fun j hj => co_dg m j hj) hf2, evX_low]
        exact evX_ext fun j hj => by rw [co_takeL, if_pos hj, hco j, if_pos hj]
      · obtain ⟨a1, c1, e3, -, -⟩ := hsub.sl.sh
        obtain ⟨a2, c2, e4, -, -⟩ := om.sl.sh
        rw [e3, e4]
        show (m'.take i).length < m'.length
        omega
  · have hml : m.length = 1 := by omega
    have h0m : 0 < m.length := by omega
    have hev2 : evX 16 l.length (co l).c x = m[0] := by
      rw [← hev, hml]
      show 0 + (co m).c 0 * xV k 0 y = _
      rw [xV_zero, El.mul_one, El.zero_add, co_get m h0m]
    simp (maxSteps := 1000000) (disch := omega) only [WS, List.getElem_cons_zero, List.getElem_cons_succ, Option.isNone_some, Option.isNone_none, List.getD_cons_zero, List.getD_cons_succ, I.at, atL, atO, atP, evp, evs, retV, ↓reduceIte, Nat.reduceEqDiff, reduceCtorEq, AS, t1, t6, om.sl.Xlen, om.sl.Xix0 h0m, om.sl.Xld h0m, cell_e16, hev2]
    exact ⟨B, Or.inr (by omega)⟩
end Go.Proofs.Ytcnabolainmaeaa.Fw
