import Derived.Test.YtcnabolainmaeaaProg
import Derived.Test.YtcnabolainmaeaaFwTM
import Derived.Test.YtcnabolainmaeaaSS13nM
set_option linter.all false
set_option linter.unusedVariables false
set_option linter.unusedSimpArgs false
set_option maxRecDepth 100000
set_option maxHeartbeats 1000000
namespace Go.Proofs.Ytcnabolainmaeaa.Fw
open Go Go.Fw Go.Proofs
attribute [local irreducible] stepI
def c_lch_ToMonomials : C := .seq (.ops [⟨0, (some 2), none, .mov (.c (.slice none 0 0)), []⟩, ⟨1, (some 3), none, .mov (.c (.int .i64 0)), []⟩]) (.seq (.seq (.ops [⟨0, (some 9), none, .mov (.t 0), []⟩, ⟨1, (some 10), none, .len (.t 9), []⟩, ⟨2, (some 11), none, .call (.c (.func (.func 34) #[] #[])) [.t 10, .c (.int .i64 256)], []⟩, ⟨3, (some 12), none, .un .not (.t 11), []⟩]) (.ite (.t 12) (.seq (.ops [⟨0, (some 2), none, .mov (.c (.slice none 0 0)), []⟩, ⟨1, (some 3), none, .mov (.c (.int .i64 130)), []⟩]) .ret) .skip)) (.seq (.ops [⟨0, (some 13), none, .mov (.t 0), []⟩, ⟨1, (some 14), none, .len (.t 13), []⟩, ⟨2, (some 15), none, .mks 22 2 [.int .u16 0] (.t 14) (.t 14), []⟩, ⟨3, (some 4), none, .mov (.t 15), []⟩]) (.seq (.seq (.ops [⟨0, (some 16), none, .mov (.t 0), []⟩, ⟨1, (some 17), none, .len (.t 16), []⟩, ⟨2, (some 18), none, .call (.c (.func (.func 35) #[] #[])) [.t 17], []⟩, ⟨3, (some 19), none, .len (.t 18), []⟩, ⟨4, (some 20), none, .mov (.c (.int .i64 0)), []⟩]) (.block 0 (.loop (.seq (.ops [⟨0, (some 21), none, .bin .lss (.t 20) (.t 19), []⟩]) (.seq (.ite (.t 21) .skip (.exit 0)) (.seq (.block 1 (.seq (.ops [⟨0, (some 22), none, .mov (.t 20), []⟩, ⟨1, (some 23), none, .ixs 1 (.t 18) (.t 20), []⟩, ⟨2, (some 24), none, .ld (.t 23), []⟩, ⟨3, (some 5), none, .mov (.t 22), []⟩, ⟨4, (some 6), none, .mov (.t 24), []⟩]) (.seq (.seq (.ops [⟨0, (some 25), none, .mov (.t 0), []⟩, ⟨1, (some 26), none, .mov (.t 5), []⟩, ⟨2, (some 27), none, .ixs 1 (.t 25) (.t 26), []⟩, ⟨3, (some 28), none, .ld (.t 27), []⟩, ⟨4, (some 29), none, .bin .eql (.t 28) (.c (.int .u16 0)), []⟩]) (.ite (.t 29) (.exit 1) .skip)) (.seq (.ops [⟨0, (some 30), none, .mov (.t 6), []⟩, ⟨1, (some 31), none, .len (.t 30), []⟩, ⟨2, (some 32), none, .mov (.c (.int .i64 0)), []⟩]) (.block 2 (.loop (.seq (.ops [⟨0, (some 33), none, .bin .lss (.t 32) (.t 31), []⟩]) (.seq (.ite (.t 33) .skip (.exit 2)) (.seq (.block 3 (.seq (.ops [⟨0, (some 34), none, .mov (.t 32), []⟩, ⟨1, (some 35), none, .ixs 1 (.t 30) (.t 32), []⟩, ⟨2, (some 36), none, .ld (.t 35), []⟩, ⟨3, (some 7), none, .mov (.t 34), []⟩, ⟨4, (some 8), none, .mov (.t 36), []⟩]) (.dops [⟨0, (some 37), none, .mov (.t 4), []⟩, ⟨1, (some 38), none, .mov (.t 7), []⟩, ⟨2, (some 39), none, .ixs 1 (.t 37) (.t 38), []⟩, ⟨3, (some 40), none, .ld (.t 39), []⟩, ⟨4, (some 41), none, .mov (.t 0), []⟩, ⟨5, (some 42), none, .mov (.t 5), []⟩, ⟨6, (some 43), none, .ixs 1 (.t 41) (.t 42), []⟩, ⟨7, (some 44), none, .ld (.t 43), []⟩, ⟨8, (some 45), none, .mov (.t 8), []⟩, ⟨9, (some 46), none, .call (.c (.func (.func 15) #[] #[])) [.t 44, .t 45], [3]⟩, ⟨10, (some 47), none, .bin .xor (.t 40) (.t 46), []⟩, ⟨11, (some 48), none, .ixs 1 (.t 37) (.t 38), []⟩, ⟨12, none, none, .st (.t 48) (.t 47), []⟩]))) (.ops [⟨0, (some 49), none, .bin .add (.t 32) (.c (.int .i64 1)), []⟩, ⟨1, (some 32), none, .mov (.t 49), []⟩])))))))))) (.ops [⟨0, (some 50), none, .bin .add (.t 20) (.c (.int .i64 1)), []⟩, ⟨1, (some 20), none, .mov (.t 50), []⟩]))))))) (.seq (.ops [⟨0, (some 51), none, .mov (.t 4), []⟩, ⟨1, (some 2), none, .mov (.t 51), []⟩, ⟨2, (some 3), none, .mov (.c (.int .i64 0)), []⟩]) .ret))))
attribute [irreducible] c_lch_ToMonomials
theorem run_lch_ToMonomials {args : List Value} {w : World} {K : Value → World → Prop} (hn : args.length ≤ 52) (h : WP Try.prog c_lch_ToMonomials (endQ [.t 2, .t 3] K) (initT args) w) : CallV Try.prog 20 args w K :=
  call_of follows Try.func20 (by kernel_rfl) (by kernel_rfl) hn h
def c_lch_FromMonomials : C := .seq (.ops [⟨0, (some 2), none, .mov (.c (.slice none 0 0)), []⟩, ⟨1, (some 3), none, .mov (.c (.int .i64 0)), []⟩]) (.seq (.seq (.ops [⟨0, (some 10), none, .mov (.t 0), []⟩, ⟨1, (some 11), none, .len (.t 10), []⟩, ⟨2, (some 12), none, .call (.c (.func (.func 34) #[] #[])) [.t 11, .c (.int .i64 256)], []⟩, ⟨3, (some 13), none, .un .not (.t 12), []⟩]) (.ite (.t 13) (.seq (.ops [⟨0, (some 2), none, .mov (.c (.slice none 0 0)), []⟩, ⟨1, (some 3), none, .mov (.c (.int .i64 130)), []⟩]) .ret) .skip)) (.seq (.ops [⟨0, (some 14), none, .mov (.t 0), []⟩, ⟨1, (some 15), none, .app 22 2 [.int .u16 0] (.c (.slice none 0 0)) (.t 14), []⟩, ⟨2, (some 4), none, .mov (.t 15), []⟩]) (.seq (.ops [⟨0, (some 16), none, .mov (.t 0), []⟩, ⟨1, (some 17), none, .len (.t 16), []⟩, ⟨2, (some 18), none, .call (.c (.func (.func 35) #[] #[])) [.t 17], []⟩, ⟨3, (some 5), none, .mov (.t 18), []⟩]) (.seq (.ops [⟨0, (some 19), none, .mov (.t 0), []⟩, ⟨1, (some 20), none, .len (.t 19), []⟩, ⟨2, (some 21), none, .mks 22 2 [.int .u16 0] (.t 20) (.t 20), []⟩, ⟨3, (some 6), none, .mov (.t 21), []⟩]) (.seq (.seq (.ops [⟨0, (some 22), none, .mov (.t 0), []⟩, ⟨1, (some 23), none, .len (.t 22), []⟩, ⟨2, (some 24), none, .bin .sub (.t 23) (.c (.int .i64 1)), []⟩, ⟨3, (some 7), none, .mov (.t 24), []⟩]) (.block 0 (.loop (.seq (.seq (.ops [⟨0, (some 25), none, .mov (.t 7), []⟩, ⟨1, (some 26), none, .bin .geq (.t 25) (.c (.int .i64 0)), []⟩]) (.ite (.t 26) .skip (.exit 0))) (.seq (.block 1 (.seq (.ops [⟨0, (some 29), none, .mov (.t 6), []⟩, ⟨1, (some 30), none, .mov (.t 7), []⟩, ⟨2, (some 31), none, .mov (.t 4), []⟩, ⟨3, (some 32), none, .mov (.t 7), []⟩, ⟨4, (some 33), none, .ixs 1 (.t 31) (.t 32), []⟩, ⟨5, (some 34), none, .ld (.t 33), []⟩, ⟨6, (some 35), none, .ixs 1 (.t 29) (.t 30), []⟩, ⟨7, none, none, .st (.t 35) (.t 34), []⟩]) (.seq (.seq (.ops [⟨0, (some 36), none, .mov (.t 6), []⟩, ⟨1, (some 37), none, .mov (.t 7), []⟩, ⟨2, (some 38), none, .ixs 1 (.t 36) (.t 37), []⟩, ⟨3, (some 39), none, .ld (.t 38), []⟩, ⟨4, (some 40), none, .bin .eql (.t 39) (.c (.int .u16 0)), []⟩]) (.ite (.t 40) (.exit 1) .skip)) (.seq (.ops [⟨0, (some 41), none, .mov (.t 5), []⟩, ⟨1, (some 42), none, .mov (.t 7), []⟩, ⟨2, (some 43), none, .ixs 1 (.t 41) (.t 42), []⟩, ⟨3, (some 44), none, .ld (.t 43), []⟩, ⟨4, (some 45), none, .mov (.t 7), []⟩, ⟨5, (some 46), none, .bin .add (.t 45) (.c (.int .i64 1)), []⟩, ⟨6, (some 47), none, .slc 1 (.t 44) none (some (.t 46)) none, []⟩, ⟨7, (some 48), none, .len (.t 47), []⟩, ⟨8, (some 49), none, .mov (.c (.int .i64 0)), []⟩]) (.block 2 (.loop (.seq (.ops [⟨0, (some 50), none, .bin .lss (.t 49) (.t 48), []⟩]) (.seq (.ite (.t 50) .skip (.exit 2)) (.seq (.block 3 (.seq (.ops [⟨0, (some 51), none, .mov (.t 49), []⟩, ⟨1, (some 52), none, .ixs 1 (.t 47) (.t 49), []⟩, ⟨2, (some 53), none, .ld (.t 52), []⟩, ⟨3, (some 8), none, .mov (.t 51), []⟩, ⟨4, (some 9), none, .mov (.t 53), []⟩]) (.dops [⟨0, (some 54), none, .mov (.t 4), []⟩, ⟨1, (some 55), none, .mov (.t 8), []⟩, ⟨2, (some 56), none, .ixs 1 (.t 54) (.t 55), []⟩, ⟨3, (some 57), none, .ld (.t 56), []⟩, ⟨4, (some 58), none, .mov (.t 6), []⟩, ⟨5, (some 59), none, .mov (.t 7), []⟩, ⟨6, (some 60), none, .ixs 1 (.t 58) (.t 59), []⟩, ⟨7, (some 61), none, .ld (.t 60), []⟩, ⟨8, (some 62), none, .mov (.t 9), []⟩, ⟨9, (some 63), none, .call (.c (.func (.func 15) #[] #[])) [.t 61, .t 62], [3]⟩, ⟨10, (some 64), none, .bin .xor (.t 57) (.t 63), []⟩, ⟨11, (some 65), none, .ixs 1 (.t 54) (.t 55), []⟩, ⟨12, none, none, .st (.t 65) (.t 64), []⟩]))) (.ops [⟨0, (some 66), none, .bin .add (.t 49) (.c (.int .i64 1)), []⟩, ⟨1, (some 49), none, .mov (.t 66), []⟩])))))))))) (.ops [⟨0, (some 27), none, .mov (.t 7), []⟩, ⟨1, (some 28), none, .bin .sub (.t 27) (.c (.int .i64 1)), []⟩, ⟨2, (some 7), none, .mov (.t 28), []⟩])))))) (.seq (.ops [⟨0, (some 67), none, .mov (.t 6), []⟩, ⟨1, (some 2), none, .mov (.t 67), []⟩, ⟨2, (some 3), none, .mov (.c (.int .i64 0)), []⟩]) .ret))))))
attribute [irreducible] c_lch_FromMonomials
theorem run_lch_FromMonomials {args : List Value} {w : World} {K : Value → World → Prop} (hn : args.length ≤ 68) (h : WP Try.prog c_lch_FromMonomials (endQ [.t 2, .t 3] K) (initT args) w) : CallV Try.prog 25 args w K :=
  call_of follows Try.func25 (by kernel_rfl) (by kernel_rfl) hn h
end Go.Proofs.Ytcnabolainmaeaa.Fw
namespace Go.Proofs.Ytcnabolainmaeaa.Fw
open Go Go.Fw
theorem pow_of_and8 {n : Nat} (h : 1 ≤ n ∧ n ≤ 256 ∧ n &&& (n - 1) = 0) : ∃ k, k ≤ 8 ∧ n = 2 ^ k := by
  obtain ⟨k, hk⟩ := pow_of_and n n (Nat.le_refl _) (by omega) h.2.2
  refine ⟨k, ?_, hk⟩
  rcases Nat.lt_or_ge 8 k with hlt | hge
  · have := Nat.pow_le_pow_right (show 0 < 2 by omega) hlt
    omega
  · exact hge
theorem lch_ToMonomials_spec (w : World) (s : Value) (l : List (El 16)) (h : Sl w s l) (hb : l.length ≤ 70368744175616) : CallV Try.prog 20 [s] w fun v w' => RowKit.Below w.heap.size w w' ∧
    ((∃ k, k ≤ 8 ∧ l.length = 2 ^ k ∧ ∃ sv m, v = .tuple #[sv, .int .i64 0] ∧ Ow w.heap.size w' sv m ∧ m.length = 2 ^ k ∧ co m = mP k (co l).c (2 ^ k)) ∨ (¬ (1 ≤ l.length ∧ l.length ≤ 256 ∧ l.length &&& (l.length - 1) = 0) ∧ v = .tuple #[.slice none 0 0, .int .i64 130])) := by
  refine run_lch_ToMonomials (by simp) ?_
  simp only [c_lch_ToMonomials, WS, List.getElem_cons_zero, List.getElem_cons_succ, Option.isNone_some, Option.isNone_none, List.getD_cons_zero, List.getD_cons_succ, I.at, atL, atO, atP, evp, evs, retV, ↓reduceIte, Nat.reduceEqDiff, reduceCtorEq, h.Xlen]
  refine X_call0 ((lch_power_spec w l.length 256 (by omega) (by omega)).mono ?_)
  rintro _ w ⟨rfl, rfl⟩
  by_cases hp : 1 ≤ l.length ∧ l.length ≤ 256 ∧ l.length &&& (l.length - 1) = 0
  rotate_left
  · simp (maxSteps := 1000000) (disch := omega) only [WS, List.getElem_cons_zero, List.getElem_cons_succ, Option.isNone_some, Option.isNone_none, List.getD_cons_zero, List.getD_cons_succ, I.at, atL, atO, atP, evp, evs, retV, ↓reduceIte, Nat.reduceEqDiff, reduceCtorEq, AS]
    exact ⟨RowKit.Below.refl _ _, Or.inr hp⟩
  obtain ⟨k, hk, hlk⟩ := pow_of_and8 hp
  have hd : decide (1 ≤ l.length ∧ l.length ≤ 256 ∧ l.length &&& (l.length - 1) = 0) = true := decide_eq_true hp
  rw [hlk] at hd hp
  have h0 := Nat.two_pow_pos k
  have h8 : 2 ^ k ≤ 256 := hp.2.1
  clear hp
  have hbig : 2 * 2 ^ k ≤ maxBytes := by simp only [maxBytes]; omega
  simp (maxSteps := 1000000) (disch := omega) only [WS, List.getElem_cons_zero, List.getElem_cons_succ, Option.isNone_some, Option.isNone_none, List.getD_cons_zero, List.getD_cons_succ, I.at, atL, atO, atP, evp, evs, retV, ↓reduceIte, Nat.reduceEqDiff, reduceCtorEq, AS, hd, h.Xlen, hlk]
  refine X_mks (x := (0 : El 16)) hbig (by omega) fun sv w1 ov hB => ?_
  have B := hB
  have hvn : Fw.blk sv ≠ none := ov.bne (by intro e; have := congrArg List.length e; simp at this)
  have hvb : ∀ b, Fw.blk sv = some b → b < w1.heap.size := fun b hb => (ov.blk b hb).2
  clear hB
  simp (maxSteps := 1000000) (disch := omega) only [WS, List.getElem_cons_zero, List.getElem_cons_succ, Option.isNone_some, Option.isNone_none, List.getD_cons_zero, List.getD_cons_succ, I.at, atL, atO, atP, evp, evs, retV, ↓reduceIte, Nat.reduceEqDiff, reduceCtorEq, AS, (h.up B).Xlen, hlk]
  refine X_call0 ((lch_bases_spec w1 k hk).mono ?_)
  rintro sb w2 ⟨hB, hs, L, b1, hl, hL⟩
  have hoff : ∀ b, Fw.blk sv = some b → Off sb hs b := fun b hb => b1.off (Or.inl (hvb b hb))
  have b1 := (⟨b1.own.mono B.size, fun j hj => (b1.row j hj).mono B.size, b1.ne, b1.two, b1.lst⟩ : Bas (α := El 16) w.heap.size w2 sb hs L)
  have ov := ov.up hB
  have B := B.trans (hB.mono B.size)
  clear hB
  simp (maxSteps := 1000000) (disch := omega) only [WS, List.getElem_cons_zero, List.getElem_cons_succ, Option.isNone_some, Option.isNone_none, List.getD_cons_zero, List.getD_cons_succ, I.at, atL, atO, atP, evp, evs, retV, ↓reduceIte, Nat.reduceEqDiff, reduceCtorEq, AS, b1.own.sl.Xlen, hl]
  refine loop_of (fun t w' => t 0 = s ∧ t 4 = sv ∧ t 18 = sb ∧ t 19 = .int .i64 ((2 ^ k : Nat) : Int) ∧ RowKit.Below w.heap.size w w' ∧ Bas w.heap.size w' sb hs L ∧ ∃ (j : Nat) (m : List (El 16)), t 20 = .int .i64 (j : Int) ∧ j ≤ 2 ^ k ∧ Ow w.heap.size w' sv m ∧ m.length = 2 ^ k ∧ co m = mP k (co l).c j)
    (fun t _ => 2 ^ k - (toI (t 20)).toNat) ⟨by simp only [WS, List.getElem_cons_zero, List.getElem_cons_succ, Option.isNone_some, Option.isNone_none, List.getD_cons_zero, List.getD_cons_succ, I.at, atL, atO, atP, evp, evs, retV, ↓reduceIte, Nat.reduceEqDiff, reduceCtorEq], by simp only [WS, List.getElem_cons_zero, List.getElem_cons_succ, Option.isNone_some, Option.isNone_none, List.getD_cons_zero, List.getD_cons_succ, I.at, atL, atO, atP, evp, evs, retV, ↓reduceIte, Nat.reduceEqDiff, reduceCtorEq], by simp only [WS, List.getElem_cons_zero, List.getElem_cons_succ, Option.isNone_some, Option.isNone_none, List.getD_cons_zero, List.getD_cons_succ, I.at, atL, atO, atP, evp, evs, retV, ↓reduceIte, Nat.reduceEqDiff, reduceCtorEq], by simp only [WS, List.getElem_cons_zero, List.getElem_cons_succ, Option.isNone_some, Option.isNone_none, List.getD_cons_zero, List.getD_cons_succ, I.at, atL, atO, atP, evp, evs, retV, ↓reduceIte, Nat.reduceEqDiff, reduceCtorEq], B, b1, 0, _, rfl, by omega, ov, List.length_replicate .., by rw [co_replicate]; rfl⟩ ?_
  clear B b1 ov
  rintro t w3 ⟨t0, t4, t18, t19, B, b1, j, m, t20, hj, ov, ml, mc⟩
  by_cases hjk : j < 2 ^ k
  · have jl : j < l.length := by omega
    have jh : j < hs.length := by omega
    have hrow := b1.get jh
    obtain ⟨lj1, lj2⟩ := hL j hjk
    have hm1 : mP k (co l).c (j + 1) = mP k (co l).c j + smP l[j] (xP k j) := by rw [← co_get l jl]; rfl
    by_cases hz : l[j] = 0
    · have d1 : decide ((l[j].v.toNat : Int) = 0) = true := decide_eq_true ((el_zero _).mpr hz)
      simp (maxSteps := 1000000) (disch := omega) only [WS, List.getElem_cons_zero, List.getElem_cons_succ, Option.isNone_some, Option.isNone_none, List.getD_cons_zero, List.getD_cons_succ, I.at, atL, atO, atP, evp, evs, retV, ↓reduceIte, Nat.reduceEqDiff, reduceCtorEq, AS, t0, t4, t18, t19, t20, b1.own.sl.Xix jh, b1.own.sl.Xld jh, (h.up B).Xix jl, (h.up B).Xld jl, cell_e16, d1]
      refine ⟨⟨B, b1, j + 1, m, rfl, by omega, ov, ml, ?_⟩, by omega⟩
      rw [hm1, hz, zero_smP, Ps.add_zero, mc]
    · have d1 : decide ((l[j].v.toNat : Int) = 0) = false := decide_eq_false (fun e => hz ((el_zero _).mp e))
      simp (maxSteps := 1000000) (disch := omega) only [WS, List.getElem_cons_zero, List.getElem_cons_succ, Option.isNone_some, Option.isNone_none, List.getD_cons_zero, List.getD_cons_succ, I.at, atL, atO, atP, evp, evs, retV, ↓reduceIte, Nat.reduceEqDiff, reduceCtorEq, AS, t0, t4, t18, t19, t20, b1.own.sl.Xix jh, b1.own.sl.Xld jh, (h.up B).Xix jl, (h.up B).Xld jl, cell_e16, d1, hrow.sl.Xlen, lj1]
      refine loop_of (fun t w' => t 0 = s ∧ t 4 = sv ∧ t 5 = .int .i64 (j : Int) ∧ t 18 = sb ∧ t 19 = .int .i64 ((2 ^ k : Nat) : Int) ∧ t 20 = .int .i64 (j : Int) ∧ t 30 = Cell.v hs[j] ∧ t 31 = .int .i64 ((2 ^ k : Nat) : Int) ∧ RowKit.Below w.heap.size w w' ∧ Bas w.heap.size w' sb hs L ∧
          ∃ (e : Nat) (m : List (El 16)), t 32 = .int .i64 (e : Int) ∧ e ≤ 2 ^ k ∧ Ow w.heap.size w' sv m ∧ m.length = 2 ^ k ∧ ∀ u, (co m).c u = (mP k (co l).c j).c u + (if u < e then l[j] * (xP k j).c u else 0)) (fun t _ => 2 ^ k - (toI (t 32)).toNat)
        ⟨by simp only [WS, List.getElem_cons_zero, List.getElem_cons_succ, Option.isNone_some, Option.isNone_none, List.getD_cons_zero, List.getD_cons_succ, I.at, atL, atO, atP, evp, evs, retV, ↓reduceIte, Nat.reduceEqDiff, reduceCtorEq]; exact t0, by simp only [WS, List.getElem_cons_zero, List.getElem_cons_succ, Option.isNone_some, Option.isNone_none, List.getD_cons_zero, List.getD_cons_succ, I.at, atL, atO, atP, evp, evs, retV, ↓reduceIte, Nat.reduceEqDiff, reduceCtorEq]; exact t4, by simp only [WS, List.getElem_cons_zero, List.getElem_cons_succ, Option.isNone_some, Option.isNone_none, List.getD_cons_zero, List.getD_cons_succ, I.at, atL, atO, atP, evp, evs, retV, ↓reduceIte, Nat.reduceEqDiff, reduceCtorEq], by simp only [WS, List.getElem_cons_zero, List.getElem_cons_succ, Option.isNone_some, Option.isNone_none, List.getD_cons_zero, List.getD_cons_succ, I.at, atL, atO, atP, evp, evs, retV, ↓reduceIte, Nat.reduceEqDiff, reduceCtorEq]; exact t18, by simp only [WS, List.getElem_cons_zero, List.getElem_cons_succ, Option.isNone_some, Option.isNone_none, List.getD_cons_zero, List.getD_cons_succ, I.at, atL, atO, atP, evp, evs, retV, ↓reduceIte, Nat.reduceEqDiff, reduceCtorEq]; exact t19, by simp only [WS, List.getElem_cons_zero, List.getElem_cons_succ, Option.isNone_some, Option.isNone_none, List.getD_cons_zero, List.getD_cons_succ, I.at, atL, atO, atP, evp, evs, retV, ↓reduceIte, Nat.reduceEqDiff, reduceCtorEq]; exact t20, by simp only [WS, List.getElem_cons_zero, List.getElem_cons_succ, Option.isNone_some, Option.isNone_none, List.getD_cons_zero, List.getD_cons_succ, I.at, atL, atO, atP, evp, evs, retV, ↓reduceIte, Nat.reduceEqDiff, reduceCtorEq], by simp only [WS, List.getElem_cons_zero, List.getElem_cons_succ, Option.isNone_some, Option.isNone_none, List.getD_cons_zero, List.getD_cons_succ, I.at, atL, atO, atP, evp, evs, retV, ↓reduceIte, Nat.reduceEqDiff, reduceCtorEq], B, b1, 0, m, rfl, by omega, ov, ml, fun u => by rw [if_neg (by omega), El.add_zero, mc]⟩ ?_
      clear t0 t4 t18 t19 t20 B b1 hrow ov ml mc
      rintro t w4 ⟨t0, t4, t5, t18, t19, t20, t30, t31, B, b1, e, m, t32, he, ov, ml, mc⟩
      have hrow := b1.get jh
      by_cases hek : e < 2 ^ k
      · have er : e < (L j).length := by omega
        have em : e < m.length := by omega
        simp (maxSteps := 1000000) (disch := omega) only [WS, List.getElem_cons_zero, List.getElem_cons_succ, Option.isNone_some, Option.isNone_none, List.getD_cons_zero, List.getD_cons_succ, I.at, atL, atO, atP, evp, evs, retV, ↓reduceIte, Nat.reduceEqDiff, reduceCtorEq, AS, t0, t4, t5, t18, t19, t20, t30, t31, t32, hrow.sl.Xix er, hrow.sl.Xld er, cell_e16]
        refine WP_dops ?_
        have hvd := ov.sl.drew
        have hsd := (h.up B).drew
        have see : Fw.sees Try.prog (.ld (.c (elP sv e))) w4.drew (.int .u16 (m[e].v.toNat : Int)) = True := hvd.sees em Try.prog
        simp (maxSteps := 1000000) (disch := omega) only [ES, List.mem_cons, List.not_mem_nil, implies_true, forall_const, WS, List.getElem_cons_zero, List.getElem_cons_succ, Option.isNone_some, Option.isNone_none, List.getD_cons_zero, List.getD_cons_succ, I.at, atL, atO, atP, evp, evs, retV, ↓reduceIte, Nat.reduceEqDiff, reduceCtorEq, AS, t0, t4, t5, t18, t19, t20, t30, t31, t32, hvd.Eix em, hvd.Eld em, hsd.Eix jl, hsd.Eld jl, cell_e16]
        refine E_call0 ((gf16_Mul_spec w4.drew l[j] (L j)[e]).mono ?_)
        rintro _ w5 ⟨rfl, rfl⟩
        simp (maxSteps := 1000000) (disch := omega) only [ES, List.mem_cons, List.not_mem_nil, implies_true, forall_const, WS, List.getElem_cons_zero, List.getElem_cons_succ, Option.isNone_some, Option.isNone_none, List.getD_cons_zero, List.getD_cons_succ, I.at, atL, atO, atP, evp, evs, retV, ↓reduceIte, Nat.reduceEqDiff, reduceCtorEq, AS, see, xor16, hvd.Eix em]
        refine Ow.Est ov.drew em (m[e] + l[j] * (L j)[e]) fun w6 ov6 hg6 => ?_
        simp (maxSteps := 1000000) (disch := omega) only [ES, List.mem_cons, List.not_mem_nil, implies_true, forall_const, WS, List.getElem_cons_zero, List.getElem_cons_succ, Option.isNone_some, Option.isNone_none, List.getD_cons_zero, List.getD_cons_succ, I.at, atL, atO, atP, evp, evs, retV, ↓reduceIte, Nat.reduceEqDiff, reduceCtorEq, AS, t0, t4, t5, t18, t19, t20, t30, t31, t32]
        refine ⟨⟨B.grown (grown_of_drew hg6) B.size fun b hb => (ov.blk b hb).1, b1.grw hoff hvn (grown_of_drew hg6), e + 1, _, rfl, by omega, ov6, by simp [ml], fun u => ?_⟩, by omega⟩
        rw [co_set _ em, mc u]
        by_cases hu : u = e
        · subst hu
          rw [if_pos rfl, if_pos (by omega), ← co_get m em, mc u, if_neg (by omega), El.add_zero, ← lj2, co_get (L j) er]
        · rw [if_neg hu]
          congr 1
          by_cases hue : u < e
          · rw [if_pos hue, if_pos (by omega)]
          · rw [if_neg hue, if_neg (by omega)]
      · obtain rfl : e = 2 ^ k := by omega
        simp (maxSteps := 1000000) (disch := omega) only [WS, List.getElem_cons_zero, List.getElem_cons_succ, Option.isNone_some, Option.isNone_none, List.getD_cons_zero, List.getD_cons_succ, I.at, atL, atO, atP, evp, evs, retV, ↓reduceIte, Nat.reduceEqDiff, reduceCtorEq, AS, t0, t4, t5, t18, t19, t20, t30, t31, t32]
        refine ⟨⟨B, b1, j + 1, m, rfl, by omega, ov, ml, ?_⟩, by omega⟩
        rw [hm1]
        refine Ps.ext fun u => ?_
        rw [mc u, Ps.add_c]
        congr 1
        show _ = l[j] * (xP k j).c u
        by_cases hu : u < 2 ^ k
        · rw [if_pos hu]
        · rw [if_neg hu, xP_dg k j hjk u (by omega), El.mul_zero]
  · obtain rfl : j = 2 ^ k := by omega
    simp (maxSteps := 1000000) (disch := omega) only [WS, List.getElem_cons_zero, List.getElem_cons_succ, Option.isNone_some, Option.isNone_none, List.getD_cons_zero, List.getD_cons_succ, I.at, atL, atO, atP, evp, evs, retV, ↓reduceIte, Nat.reduceEqDiff, reduceCtorEq, AS, t0, t4, t18, t19, t20]
    exact ⟨B, Or.inl ⟨k, hk, rfl, sv, m, rfl, ov, ml, mc⟩⟩
theorem lch_FromMonomials_spec (w : World) (s : Value) (l : List (El 16)) (h : Sl w s l) (hb : l.length ≤ 70368744175616) : CallV Try.prog 25 [s] w fun v w' => RowKit.Below w.heap.size w w' ∧
    ((∃ k, k ≤ 8 ∧ l.length = 2 ^ k ∧ ∃ sv m, v = .tuple #[sv, .int .i64 0] ∧ Ow w.heap.size w' sv m ∧ m.length = 2 ^ k ∧ mP k (co m).c (2 ^ k) = co l) ∨ (¬ (1 ≤ l.length ∧ l.length ≤ 256 ∧ l.length &&& (l.length - 1) = 0) ∧ v = .tuple #[.slice none 0 0, .int .i64 130])) := by
  refine run_lch_FromMonomials (by simp) ?_
  simp only [c_lch_FromMonomials, WS, List.getElem_cons_zero, List.getElem_cons_succ, Option.isNone_some, Option.isNone_none, List.getD_cons_zero, List.getD_cons_succ, I.at, atL, atO, atP, evp, evs, retV, ↓reduceIte, Nat.reduceEqDiff, reduceCtorEq, h.Xlen]
  refine X_call0 ((lch_power_spec w l.length 256 (by omega) (by omega)).mono ?_)
  rintro _ w ⟨rfl, rfl⟩
  by_cases hp : 1 ≤ l.length ∧ l.length ≤ 256 ∧ l.length &&& (l.length - 1) = 0
  rotate_left
  · simp (maxSteps := 1000000) (disch := omega) only [WS, List.getElem_cons_zero, List.getElem_cons_succ, Option.isNone_some, Option.isNone_none, List.getD_cons_zero, List.getD_cons_succ, I.at, atL, atO, atP, evp, evs, retV, ↓reduceIte, Nat.reduceEqDiff, reduceCtorEq, AS]
    exact ⟨RowKit.Below.refl _ _, Or.inr hp⟩
  obtain ⟨k, hk, hlk⟩ := pow_of_and8 hp
  have hd : decide (1 ≤ l.length ∧ l.length ≤ 256 ∧ l.length &&& (l.length - 1) = 0) = true := decide_eq_true hp
  rw [hlk] at hp
  have h0 := Nat.two_pow_pos k
  have h8 : 2 ^ k ≤ 256 := hp.2.1
  clear hp
  have hbig : 2 * 2 ^ k ≤ maxBytes := by simp only [maxBytes]; omega
  simp (maxSteps := 1000000) (disch := omega) only [WS, List.getElem_cons_zero, List.getElem_cons_succ, Option.isNone_some, Option.isNone_none, List.getD_cons_zero, List.getD_cons_succ, I.at, atL, atO, atP, evp, evs, retV, ↓reduceIte, Nat.reduceEqDiff, reduceCtorEq, AS, hd]
  refine (Ow.nil w.heap.size w).Xapp h (Nat.le_refl _) (by simp only [List.length_nil, maxBytes]; omega) (by simp only [List.length_nil]; omega) fun sr w1 orr hg hn => ?_
  rw [List.nil_append] at orr
  have B : RowKit.Below w.heap.size w w1 := (RowKit.Below.refl _ _).grown hg (Nat.le_refl _) fun b hb => by simp [Fw.blk, Value.ownBlock] at hb
  clear hg hn
  have hlne : l ≠ [] := by rintro rfl; simp at hlk; omega
  have hrn : Fw.blk sr ≠ none := orr.bne hlne
  have hrb : ∀ b, Fw.blk sr = some b → b < w1.heap.size := fun b hb => (orr.blk b hb).2
  simp (maxSteps := 1000000) (disch := omega) only [WS, List.getElem_cons_zero, List.getElem_cons_succ, Option.isNone_some, Option.isNone_none, List.getD_cons_zero, List.getD_cons_succ, I.at, atL, atO, atP, evp, evs, retV, ↓reduceIte, Nat.reduceEqDiff, reduceCtorEq, AS, (h.up B).Xlen, hlk]
  refine X_call0 ((lch_bases_spec w1 k hk).mono ?_)
  rintro sb w2 ⟨hB, hs, L, b1, hl, hL⟩
  have hoff : ∀ b, Fw.blk sr = some b → Off sb hs b := fun b hb => b1.off (Or.inl (hrb b hb))
  have hoff2 : ∀ b, w2.heap.size ≤ b → Off sb hs b := fun b hb => b1.off (Or.inr hb)
  have b1 := (⟨b1.own.mono B.size, fun j hj => (b1.row j hj).mono B.size, b1.ne, b1.two, b1.lst⟩ : Bas (α := El 16) w.heap.size w2 sb hs L)
  have hw12 := hB.size
  have orr := orr.up hB
  have B := B.trans (hB.mono B.size)
  clear hB
  have hw2 := B.size
  have e0 : IntKind.i64.wrap (((2 ^ k : Nat) : Int) - 1) = ((2 ^ k : Nat) : Int) - 1 := wrap_id (by omega) (by omega)
  simp (maxSteps := 1000000) (disch := omega) only [WS, List.getElem_cons_zero, List.getElem_cons_succ, Option.isNone_some, Option.isNone_none, List.getD_cons_zero, List.getD_cons_succ, I.at, atL, atO, atP, evp, evs, retV, ↓reduceIte, Nat.reduceEqDiff, reduceCtorEq, AS, (h.up B).Xlen, hlk]
  refine X_mks (x := (0 : El 16)) hbig (by omega) fun sd w3 od hB => ?_
  have hdn : Fw.blk sd ≠ none := od.bne (by intro e; have := congrArg List.length e; simp at this)
  have hdb : ∀ b, Fw.blk sd = some b → w2.heap.size ≤ b := fun b hb => (od.blk b hb).1
  have hoffd : ∀ b, Fw.blk sd = some b → Off sb hs b := fun b hb => hoff2 b (hdb b hb)
  have hrd : Fw.blk sr ≠ Fw.blk sd := fun e => by
    obtain ⟨b, hb⟩ := Option.ne_none_iff_exists'.1 hrn
    have := hrb b hb
    have := hdb b (e ▸ hb)
    omega
  have od := od.mono hw2
  have orr := orr.up hB
  have b1 := b1.up hB
  have B := B.trans (hB.mono B.size)
  clear hB
  simp (maxSteps := 1000000) only [WS, List.getElem_cons_zero, List.getElem_cons_succ, Option.isNone_some, Option.isNone_none, List.getD_cons_zero, List.getD_cons_succ, I.at, atL, atO, atP, evp, evs, retV, ↓reduceIte, Nat.reduceEqDiff, reduceCtorEq, (h.up B).Xlen, hlk, e0]
  refine loop_of (fun t w' => t 4 = sr ∧ t 5 = sb ∧ t 6 = sd ∧ RowKit.Below w.heap.size w w' ∧ Bas w.heap.size w' sb hs L ∧ ∃ (j : Nat) (rm dm : List (El 16)), t 7 = .int .i64 ((j : Int) - 1) ∧ j ≤ 2 ^ k ∧ Ow w.heap.size w' sr rm ∧ rm.length = 2 ^ k ∧ Ow w.heap.size w' sd dm ∧ dm.length = 2 ^ k ∧
      Dg (co rm) j ∧ (∀ u, u < j → (co dm).c u = 0) ∧ co rm + mP k (co dm).c (2 ^ k) = co l)
    (fun t _ => (toI (t 7) + 1).toNat) ⟨by simp only [WS, List.getElem_cons_zero, List.getElem_cons_succ, Option.isNone_some, Option.isNone_none, List.getD_cons_zero, List.getD_cons_succ, I.at, atL, atO, atP, evp, evs, retV, ↓reduceIte, Nat.reduceEqDiff, reduceCtorEq], by simp only [WS, List.getElem_cons_zero, List.getElem_cons_succ, Option.isNone_some, Option.isNone_none, List.getD_cons_zero, List.getD_cons_succ, I.at, atL, atO, atP, evp, evs, retV, ↓reduceIte, Nat.reduceEqDiff, reduceCtorEq], by simp only [WS, List.getElem_cons_zero, List.getElem_cons_succ, Option.isNone_some, Option.isNone_none, List.getD_cons_zero, List.getD_cons_succ, I.at, atL, atO, atP, evp, evs, retV, ↓reduceIte, Nat.reduceEqDiff, reduceCtorEq], B, b1, 2 ^ k, l, _, rfl, by omega, orr, hlk, od, List.length_replicate .., by rw [← hlk]; exact co_dg l, fun u _ => by rw [co_replicate]; rfl, by
      rw [co_replicate]
      have : ∀ n, mP k (0 : Ps 16).c n = 0 := fun n => by
        induction n with
        | zero => rfl
        | succ n ih => show mP k _ n + smP 0 _ = 0; rw [ih, zero_smP, Ps.add_zero]
      rw [this, Ps.add_zero]⟩ ?_
  clear B b1 orr od
  rintro t w4 ⟨t4, t5, t6, B, b1, j, rm, dm, t7, hj, orr, rl, od, dl, hdg, hd0, hsum⟩
  cases j with
  | zero =>
    rw [show ((0 : Nat) : Int) - 1 = -1 from rfl] at t7
    simp (maxSteps := 1000000) (disch := omega) only [WS, List.getElem_cons_zero, List.getElem_cons_succ, Option.isNone_some, Option.isNone_none, List.getD_cons_zero, List.getD_cons_succ, I.at, atL, atO, atP, evp, evs, retV, ↓reduceIte, Nat.reduceEqDiff, reduceCtorEq, AS, t4, t5, t6, t7, show decide ((0 : Int) ≤ -1) = false from rfl]
    refine ⟨B, Or.inl ⟨k, hk, rfl, sd, dm, rfl, od, dl, ?_⟩⟩
    rw [← hsum, hdg.zero, Ps.zero_add]
  | succ j =>
  rw [show ((j + 1 : Nat) : Int) - 1 = (j : Int) by omega] at t7
  have jh : j < hs.length := by omega
  have jr : j < rm.length := by omega
  have jd : j < dm.length := by omega
  have hrow := b1.get jh
  obtain ⟨lj1, lj2⟩ := hL j (by omega)
  have e1 : IntKind.i64.wrap ((j : Int) - 1) = (j : Int) - 1 := wrap_id (by omega) (by omega)
  simp (maxSteps := 1000000) (disch := omega) only [WS, List.getElem_cons_zero, List.getElem_cons_succ, Option.isNone_some, Option.isNone_none, List.getD_cons_zero, List.getD_cons_succ, I.at, atL, atO, atP, evp, evs, retV, ↓reduceIte, Nat.reduceEqDiff, reduceCtorEq, decide_eq_true, Int.natCast_nonneg, t4, t5, t6, t7, orr.sl.Xix jr, orr.sl.Xld jr, od.sl.Xix jd]
  refine od.Xst jd rm[j] fun w5 od5 hg5 => ?_
  have B5 := B.grown hg5 B.size fun b hb => (od.blk b hb).1
  have b5 := b1.grw hoffd hdn hg5
  have or5 := orr.grown hg5 hrd
  have jd5 : j < (dm.set j rm[j]).length := by simpa using jd
  have g5 : (dm.set j rm[j])[j] = rm[j] := by simp
  have hcd : ∀ u, (co (dm.set j rm[j])).c u = if u = j then rm[j] else (co dm).c u := fun u => co_set dm jd rm[j] u
  have hupd : mP k (co (dm.set j rm[j])).c (2 ^ k) = mP k (co dm).c (2 ^ k) + smP rm[j] (xP k j) := by
    have := mP_upd (k := k) (d := (co dm).c) (e := (co (dm.set j rm[j])).c) (i := j) (hd0 j (by omega)) (fun u hu => by rw [hcd u, if_neg hu]) (n := 2 ^ k) (by omega)
    rw [this, hcd j, if_pos rfl]
  have hz5 : ∀ u, u < j → (co (dm.set j rm[j])).c u = 0 := fun u hu => by rw [hcd u, if_neg (by omega), hd0 u (by omega)]
  have l5 : (dm.set j rm[j]).length = 2 ^ k := by simpa using dl
  clear od b1 B orr hrow
  have hrow := b5.get jh
  by_cases hz : rm[j] = 0
  · have d1 : decide ((rm[j].v.toNat : Int) = 0) = true := decide_eq_true ((el_zero _).mpr hz)
    simp (maxSteps := 1000000) only [WS, List.getElem_cons_zero, List.getElem_cons_succ, Option.isNone_some, Option.isNone_none, List.getD_cons_zero, List.getD_cons_succ, I.at, atL, atO, atP, evp, evs, retV, ↓reduceIte, Nat.reduceEqDiff, reduceCtorEq, t4, t5, t6, t7, od5.sl.Xix jd5, od5.sl.Xld jd5, g5, cell_e16, d1, e1, toI_int]
    refine ⟨⟨B5, b5, j, rm, _, rfl, by omega, or5, rl, od5, l5, fun u hu => ?_, hz5, ?_⟩, by omega⟩
    · by_cases huj : u = j
      · rw [huj, co_get rm jr, hz]
      · exact hdg u (by omega)
    · rw [hupd, hz, zero_smP, Ps.add_zero, hsum]
  · have d1 : decide ((rm[j].v.toNat : Int) = 0) = false := decide_eq_false (fun e => hz ((el_zero _).mp e))
    have hj1 : j + 1 ≤ (L j).length := by omega
    have hsub := hrow.sub0 hj1
    have hsl : ((L j).take (j + 1)).length = j + 1 := by rw [List.length_take]; omega
    have e2 : IntKind.i64.wrap ((j : Int) + 1) = ((j + 1 : Nat) : Int) := by rw [wrap_id (by omega) (by omega)]; omega
    simp (maxSteps := 1000000) only [WS, List.getElem_cons_zero, List.getElem_cons_succ, Option.isNone_some, Option.isNone_none, List.getD_cons_zero, List.getD_cons_succ, I.at, atL, atO, atP, evp, evs, retV, ↓reduceIte, Nat.reduceEqDiff, reduceCtorEq, t4, t5, t6, t7, od5.sl.Xix jd5, od5.sl.Xld jd5, g5, cell_e16, d1, b5.own.sl.Xix jh, b5.own.sl.Xld jh, e2, hrow.sl.XslcHi hj1, hsub.sl.Xlen, hsl]
    generalize hx : rm[j] = x at *
    refine loop_of (fun t w' => t 4 = sr ∧ t 5 = sb ∧ t 6 = sd ∧ t 7 = .int .i64 (j : Int) ∧ t 47 = Fw.sub (Cell.v hs[j]) 0 (j + 1) ∧ t 48 = .int .i64 ((j + 1 : Nat) : Int) ∧ RowKit.Below w.heap.size w w' ∧ Bas w.heap.size w' sb hs L ∧ Ow w.heap.size w' sd (dm.set j x) ∧
        ∃ (e : Nat) (m : List (El 16)), t 49 = .int .i64 (e : Int) ∧ e ≤ j + 1 ∧ Ow w.heap.size w' sr m ∧ m.length = 2 ^ k ∧ ∀ u, (co m).c u = (co rm).c u + (if u < e then x * (xP k j).c u else 0)) (fun t _ => j + 1 - (toI (t 49)).toNat)
      ⟨by simp only [WS, List.getElem_cons_zero, List.getElem_cons_succ, Option.isNone_some, Option.isNone_none, List.getD_cons_zero, List.getD_cons_succ, I.at, atL, atO, atP, evp, evs, retV, ↓reduceIte, Nat.reduceEqDiff, reduceCtorEq]; exact t4, by simp only [WS, List.getElem_cons_zero, List.getElem_cons_succ, Option.isNone_some, Option.isNone_none, List.getD_cons_zero, List.getD_cons_succ, I.at, atL, atO, atP, evp, evs, retV, ↓reduceIte, Nat.reduceEqDiff, reduceCtorEq]; exact t5, by simp only [WS, List.getElem_cons_zero, List.getElem_cons_succ, Option.isNone_some, Option.isNone_none, List.getD_cons_zero, List.getD_cons_succ, I.at, atL, atO, atP, evp, evs, retV, ↓reduceIte, Nat.reduceEqDiff, reduceCtorEq]; exact t6, by simp only [WS, List.getElem_cons_zero, List.getElem_cons_succ, Option.isNone_some, Option.isNone_none, List.getD_cons_zero, List.getD_cons_succ, I.at, atL, atO, atP, evp, evs, retV, ↓reduceIte, Nat.reduceEqDiff, reduceCtorEq]; exact t7, by simp only [WS, List.getElem_cons_zero, List.getElem_cons_succ, Option.isNone_some, Option.isNone_none, List.getD_cons_zero, List.getD_cons_succ, I.at, atL, atO, atP, evp, evs, retV, ↓reduceIte, Nat.reduceEqDiff, reduceCtorEq], by simp only [WS, List.getElem_cons_zero, List.getElem_cons_succ, Option.isNone_some, Option.isNone_none, List.getD_cons_zero, List.getD_cons_succ, I.at, atL, atO, atP, evp, evs, retV, ↓reduceIte, Nat.reduceEqDiff, reduceCtorEq], B5, b5, od5, 0, rm, rfl, by omega, or5, rl, fun u => by rw [if_neg (by omega), El.add_zero]⟩ ?_
    clear t4 t5 t6 t7 B5 b5 od5 or5 hrow hsub
    rintro t w6 ⟨t4, t5, t6, t7, t47, t48, B, b1, od, e, m, t49, he, orr, ml, mc⟩
    have hrow := b1.get jh
    have hsub := hrow.sub0 hj1
    by_cases hej : e < j + 1
    · have er : e < ((L j).take (j + 1)).length := by omega
      have em : e < m.length := by omega
      simp (maxSteps := 1000000) (disch := omega) only [WS, List.getElem_cons_zero, List.getElem_cons_succ, Option.isNone_some, Option.isNone_none, List.getD_cons_zero, List.getD_cons_succ, I.at, atL, atO, atP, evp, evs, retV, ↓reduceIte, Nat.reduceEqDiff, reduceCtorEq, AS, t4, t5, t6, t7, t47, t48, t49, hsub.sl.Xix er, hsub.sl.Xld er, cell_e16]
      refine WP_dops ?_
      have hrd' := orr.sl.drew
      have hod := od.sl.drew
      have see : Fw.sees Try.prog (.ld (.c (elP sr e))) w6.drew (.int .u16 (m[e].v.toNat : Int)) = True := hrd'.sees em Try.prog
      simp (maxSteps := 1000000) (disch := omega) only [ES, List.mem_cons, List.not_mem_nil, implies_true, forall_const, WS, List.getElem_cons_zero, List.getElem_cons_succ, Option.isNone_some, Option.isNone_none, List.getD_cons_zero, List.getD_cons_succ, I.at, atL, atO, atP, evp, evs, retV, ↓reduceIte, Nat.reduceEqDiff, reduceCtorEq, AS, t4, t5, t6, t7, t47, t48, t49, hrd'.Eix em, hrd'.Eld em, hod.Eix jd5, hod.Eld jd5, g5, cell_e16]
      refine E_call0 ((gf16_Mul_spec w6.drew x ((L j).take (j + 1))[e]).mono ?_)
      rintro _ w7 ⟨rfl, rfl⟩
      simp (maxSteps := 1000000) (disch := omega) only [ES, List.mem_cons, List.not_mem_nil, implies_true, forall_const, WS, List.getElem_cons_zero, List.getElem_cons_succ, Option.isNone_some, Option.isNone_none, List.getD_cons_zero, List.getD_cons_succ, I.at, atL, atO, atP, evp, evs, retV, ↓reduceIte, Nat.reduceEqDiff, reduceCtorEq, AS, see, xor16, hrd'.Eix em]
      refine Ow.Est orr.drew em (m[e] + x * ((L j).take (j + 1))[e]) fun w8 or8 hg8 => ?_
      simp (maxSteps := 1000000) (disch := omega) only [ES, List.mem_cons, List.not_mem_nil, implies_true, forall_const, WS, List.getElem_cons_zero, List.getElem_cons_succ, Option.isNone_some, Option.isNone_none, List.getD_cons_zero, List.getD_cons_succ, I.at, atL, atO, atP, evp, evs, retV, ↓reduceIte, Nat.reduceEqDiff, reduceCtorEq, AS, t4, t5, t6, t7, t47, t48, t49]
      refine ⟨⟨B.grown (grown_of_drew hg8) B.size fun b hb => (orr.blk b hb).1, b1.grw hoff hrn (grown_of_drew hg8), od.grown (grown_of_drew hg8) (fun e => hrd e.symm), e + 1, _, rfl, by omega, or8, by simp [ml], fun u => ?_⟩, by omega⟩
      rw [co_set _ em, mc u]
      by_cases hu : u = e
      · subst hu
        rw [if_pos rfl, if_pos (by omega), ← co_get m em, mc u, if_neg (by omega), El.add_zero, ← lj2, ← co_get _ er, co_takeL, if_pos hej]
      · rw [if_neg hu]
        congr 1
        by_cases hue : u < e
        · rw [if_pos hue, if_pos (by omega)]
        · rw [if_neg hue, if_neg (by omega)]
    · obtain rfl : e = j + 1 := by omega
      have hm : co m = co rm + smP x (xP k j) := by
        refine Ps.ext fun u => ?_
        rw [mc u, Ps.add_c]
        congr 1
        show _ = x * (xP k j).c u
        by_cases hu : u < j + 1
        · rw [if_pos hu]
        · rw [if_neg hu, xP_dg k j (by omega) u (by omega), El.mul_zero]
      simp (maxSteps := 1000000) (disch := omega) only [WS, List.getElem_cons_zero, List.getElem_cons_succ, Option.isNone_some, Option.isNone_none, List.getD_cons_zero, List.getD_cons_succ, I.at, atL, atO, atP, evp, evs, retV, ↓reduceIte, Nat.reduceEqDiff, reduceCtorEq, decide_eq_false, t4, t5, t6, t7, t47, t48, t49, e1, toI_int]
      refine ⟨⟨B, b1, j, m, _, rfl, by omega, orr, ml, od, l5, fun u hu => ?_, hz5, ?_⟩, by omega⟩
      · rw [hm, Ps.add_c]
        by_cases huj : u = j
        · subst huj
          rw [co_get rm jr, hx]
          show x + x * (xP k u).c u = 0
          rw [xP_top k u (by omega), El.mul_one, El.add_self]
        · rw [hdg u (by omega), El.zero_add]
          show x * (xP k j).c u = 0
          rw [xP_dg k j (by omega) u (by omega), El.mul_zero]
      · rw [hupd, hm, ← hsum]
        refine Ps.ext fun u => ?_
        simp only [Ps.add_c]
        generalize (smP x (xP k j)).c u = z
        generalize (co rm).c u = a
        generalize (mP k (co dm).c (2 ^ k)).c u = b
        rw [show a + z + (b + z) = a + b + (z + z) by ac_rfl, El.add_self, El.add_zero]
end Go.Proofs.Ytcnabolainmaeaa.Fw
