import Derived.Test.YtcnabolainmaeaaProg
import Derived.Test.YtcnabolainmaeaaFwTT
import Derived.Test.YtcnabolainmaeaaSS13uT
import Derived.Test.YtcnabolainmaeaaSS13qT
import Derived.Test.YtcnabolainmaeaaSS13eT
set_option linter.all false
set_option linter.unusedVariables false
set_option linter.unusedSimpArgs false
set_option maxRecDepth 100000
set_option maxHeartbeats 1000000
namespace Go.Proofs.Ytcnabolainmaeaa.Fw
open Go Go.Fw Go.Proofs
attribute [local irreducible] stepI
def c_culletlaw13_LchTurns : C := .seq (.ops [⟨0, (some 2), none, .mov (.c (.bool false)), []⟩]) (.seq (.ops [⟨0, (some 3), none, .mov (.t 0), []⟩, ⟨1, (some 4), none, .call (.c (.func (.func 30) #[] #[])) [.t 3, .c (.int .i64 7), .c (.int .i64 8)], []⟩, ⟨2, (some 2), none, .mov (.t 4), []⟩]) .ret)
attribute [irreducible] c_culletlaw13_LchTurns
theorem run_culletlaw13_LchTurns {args : List Value} {w : World} {K : Value → World → Prop} (hn : args.length ≤ 5) (h : WP Try.prog c_culletlaw13_LchTurns (endQ [.t 2] K) (initT args) w) : CallV Try.prog 11 args w K :=
  call_of follows Try.func11 (by kernel_rfl) (by kernel_rfl) hn h
def c_culletref13_FromMonomials : C := .seq (.ops [⟨0, (some 2), none, .mov (.c (.slice none 0 0)), []⟩, ⟨1, (some 3), none, .mov (.c (.int .i64 0)), []⟩]) (.seq (.seq (.ops [⟨0, (some 9), none, .mov (.t 0), []⟩, ⟨1, (some 10), none, .len (.t 9), []⟩, ⟨2, (some 11), none, .call (.c (.func (.func 63) #[] #[])) [.t 10, .c (.int .i64 256)], []⟩, ⟨3, (some 12), none, .un .not (.t 11), []⟩]) (.ite (.t 12) (.seq (.ops [⟨0, (some 2), none, .mov (.c (.slice none 0 0)), []⟩, ⟨1, (some 3), none, .mov (.c (.int .i64 130)), []⟩]) .ret) .skip)) (.seq (.ops [⟨0, (some 13), none, .mov (.t 0), []⟩, ⟨1, (some 14), none, .len (.t 13), []⟩, ⟨2, (some 15), none, .call (.c (.func (.func 64) #[] #[])) [.t 14], []⟩, ⟨3, (some 4), none, .mov (.t 15), []⟩]) (.seq (.ops [⟨0, (some 16), none, .mov (.t 0), []⟩, ⟨1, (some 17), none, .len (.t 16), []⟩, ⟨2, (some 18), none, .mks 22 2 [.int .u16 0] (.t 17) (.t 17), []⟩, ⟨3, (some 5), none, .mov (.t 18), []⟩]) (.seq (.ops [⟨0, (some 19), none, .mov (.t 5), []⟩, ⟨1, (some 20), none, .mov (.t 0), []⟩, ⟨2, (some 21), none, .cpy 1 (.t 19) (.t 20), []⟩]) (.seq (.ops [⟨0, (some 22), none, .mov (.t 0), []⟩, ⟨1, (some 23), none, .len (.t 22), []⟩, ⟨2, (some 24), none, .mks 22 2 [.int .u16 0] (.t 23) (.t 23), []⟩, ⟨3, (some 6), none, .mov (.t 24), []⟩]) (.seq (.seq (.ops [⟨0, (some 25), none, .mov (.t 0), []⟩, ⟨1, (some 26), none, .len (.t 25), []⟩, ⟨2, (some 27), none, .bin .sub (.t 26) (.c (.int .i64 1)), []⟩, ⟨3, (some 7), none, .mov (.t 27), []⟩]) (.block 0 (.loop (.seq (.seq (.ops [⟨0, (some 28), none, .mov (.t 7), []⟩, ⟨1, (some 29), none, .bin .geq (.t 28) (.c (.int .i64 0)), []⟩]) (.ite (.t 29) .skip (.exit 0))) (.seq (.block 1 (.seq (.ops [⟨0, (some 32), none, .mov (.t 6), []⟩, ⟨1, (some 33), none, .mov (.t 7), []⟩, ⟨2, (some 34), none, .mov (.t 5), []⟩, ⟨3, (some 35), none, .mov (.t 7), []⟩, ⟨4, (some 36), none, .ixs 1 (.t 34) (.t 35), []⟩, ⟨5, (some 37), none, .ld (.t 36), []⟩, ⟨6, (some 38), none, .ixs 1 (.t 32) (.t 33), []⟩, ⟨7, none, none, .st (.t 38) (.t 37), []⟩]) (.seq (.ops [⟨0, (some 8), none, .mov (.c (.int .i64 0)), []⟩]) (.block 2 (.loop (.seq (.seq (.ops [⟨0, (some 39), none, .mov (.t 8), []⟩, ⟨1, (some 40), none, .mov (.t 4), []⟩, ⟨2, (some 41), none, .mov (.t 7), []⟩, ⟨3, (some 42), none, .ixs 1 (.t 40) (.t 41), []⟩, ⟨4, (some 43), none, .ld (.t 42), []⟩, ⟨5, (some 44), none, .len (.t 43), []⟩, ⟨6, (some 45), none, .bin .lss (.t 39) (.t 44), []⟩, ⟨7, (some 46), none, .mov (.t 45), []⟩, ⟨8, (some 47), (some (46, true)), .mov (.t 6), []⟩, ⟨9, (some 48), (some (46, true)), .mov (.t 7), []⟩, ⟨10, (some 49), (some (46, true)), .ixs 1 (.t 47) (.t 48), []⟩, ⟨11, (some 50), (some (46, true)), .ld (.t 49), []⟩, ⟨12, (some 51), (some (46, true)), .bin .neq (.t 50) (.c (.int .u16 0)), []⟩, ⟨13, (some 52), none, .pick (.t 46) (.t 51) (.c (.bool false)), []⟩]) (.ite (.t 52) .skip (.exit 2))) (.seq (.block 3 (.dops [⟨0, (some 55), none, .mov (.t 5), []⟩, ⟨1, (some 56), none, .mov (.t 8), []⟩, ⟨2, (some 57), none, .mov (.t 5), []⟩, ⟨3, (some 58), none, .mov (.t 8), []⟩, ⟨4, (some 59), none, .ixs 1 (.t 57) (.t 58), []⟩, ⟨5, (some 60), none, .ld (.t 59), []⟩, ⟨6, (some 61), none, .mov (.t 6), []⟩, ⟨7, (some 62), none, .mov (.t 7), []⟩, ⟨8, (some 63), none, .ixs 1 (.t 61) (.t 62), []⟩, ⟨9, (some 64), none, .ld (.t 63), []⟩, ⟨10, (some 65), none, .mov (.t 4), []⟩, ⟨11, (some 66), none, .mov (.t 7), []⟩, ⟨12, (some 67), none, .ixs 1 (.t 65) (.t 66), []⟩, ⟨13, (some 68), none, .ld (.t 67), []⟩, ⟨14, (some 69), none, .mov (.t 8), []⟩, ⟨15, (some 70), none, .ixs 1 (.t 68) (.t 69), []⟩, ⟨16, (some 71), none, .ld (.t 70), []⟩, ⟨17, (some 72), none, .call (.c (.func (.func 61) #[] #[])) [.t 64, .t 71], [5]⟩, ⟨18, (some 73), none, .bin .xor (.t 60) (.t 72), []⟩, ⟨19, (some 74), none, .ixs 1 (.t 55) (.t 56), []⟩, ⟨20, none, none, .st (.t 74) (.t 73), []⟩])) (.ops [⟨0, (some 53), none, .mov (.t 8), []⟩, ⟨1, (some 54), none, .bin .add (.t 53) (.c (.int .i64 1)), []⟩, ⟨2, (some 8), none, .mov (.t 54), []⟩])))))))) (.ops [⟨0, (some 30), none, .mov (.t 7), []⟩, ⟨1, (some 31), none, .bin .sub (.t 30) (.c (.int .i64 1)), []⟩, ⟨2, (some 7), none, .mov (.t 31), []⟩])))))) (.seq (.ops [⟨0, (some 75), none, .mov (.t 6), []⟩, ⟨1, (some 2), none, .mov (.t 75), []⟩, ⟨2, (some 3), none, .mov (.c (.int .i64 0)), []⟩]) .ret)))))))
attribute [irreducible] c_culletref13_FromMonomials
theorem run_culletref13_FromMonomials {args : List Value} {w : World} {K : Value → World → Prop} (hn : args.length ≤ 76) (h : WP Try.prog c_culletref13_FromMonomials (endQ [.t 2, .t 3] K) (initT args) w) : CallV Try.prog 54 args w K :=
  call_of follows Try.func54 (by kernel_rfl) (by kernel_rfl) hn h
end Go.Proofs.Ytcnabolainmaeaa.Fw
namespace Go.Proofs.Ytcnabolainmaeaa.Fw
open Go Go.Fw
theorem culletref13_FromMonomials_spec (w : World) (s : Value) (l : List (El 16)) (h : Sl w s l) (hb : l.length ≤ 70368744175616) : CallV Try.prog 54 [s] w fun v w' => RowKit.Below w.heap.size w w' ∧
    ((∃ k, k ≤ 8 ∧ l.length = 2 ^ k ∧ ∃ sv m, v = .tuple #[sv, .int .i64 0] ∧ Ow w.heap.size w' sv m ∧ m.length = 2 ^ k ∧ mP k (co m).c (2 ^ k) = co l) ∨ (¬ (1 ≤ l.length ∧ l.length ≤ 256 ∧ l.length &&& (l.length - 1) = 0) ∧ v = .tuple #[.slice none 0 0, .int .i64 130])) := by
  refine run_culletref13_FromMonomials (by simp) ?_
  simp only [c_culletref13_FromMonomials, WS, List.getElem_cons_zero, List.getElem_cons_succ, Option.isNone_some, Option.isNone_none, List.getD_cons_zero, List.getD_cons_succ, I.at, atL, atO, atP, evp, evs, retV, ↓reduceIte, Nat.reduceEqDiff, reduceCtorEq, h.Xlen]
  refine X_call0 ((culletref13_power_spec w l.length 8 (by omega) hb).mono ?_)
  rintro _ w ⟨rfl, rfl⟩
  rw [show 2 ^ 8 = 256 from rfl]
  by_cases hp : 1 ≤ l.length ∧ l.length ≤ 256 ∧ l.length &&& (l.length - 1) = 0
  rotate_left
  · simp (maxSteps := 1000000) (disch := omega) only [WS, List.getElem_cons_zero, List.getElem_cons_succ, Option.isNone_some, Option.isNone_none, List.getD_cons_zero, List.getD_cons_succ, I.at, atL, atO, atP, evp, evs, retV, ↓reduceIte, Nat.reduceEqDiff, reduceCtorEq, AS]
    exact ⟨RowKit.Below.refl _ _, Or.inr hp⟩
  obtain ⟨k, hk, hlk⟩ := pow_of_and8 hp
  have hd : decide (1 ≤ l.length ∧ l.length ≤ 256 ∧ l.length &&& (l.length - 1) = 0) = true := decide_eq_true hp
  rw [hlk] at hd hp
  have h0 := Nat.two_pow_pos k
  have h8 : 2 ^ k ≤ 256 := hp.2.1
  clear hp
  have hbig : 2 * 2 ^ k ≤ maxBytes := by simp only [maxBytes]; omega
  simp (maxSteps := 1000000) (disch := omega) only [WS, List.getElem_cons_zero, List.getElem_cons_succ, Option.isNone_some, Option.isNone_none, List.getD_cons_zero, List.getD_cons_succ, I.at, atL, atO, atP, evp, evs, retV, ↓reduceIte, Nat.reduceEqDiff, reduceCtorEq, AS, hd, h.Xlen, hlk]
  refine X_call0 ((culletref13_members_spec w k hk).mono ?_)
  rintro sb w2 ⟨hB, hs, L, b1, hl, hL⟩
  have hoffR : ∀ b, w2.heap.size ≤ b → Off sb hs b := fun b hb => b1.off (Or.inr hb)
  have B := hB
  have W2 := hB.size
  clear hB
  simp (maxSteps := 1000000) (disch := omega) only [WS, List.getElem_cons_zero, List.getElem_cons_succ, Option.isNone_some, Option.isNone_none, List.getD_cons_zero, List.getD_cons_succ, I.at, atL, atO, atP, evp, evs, retV, ↓reduceIte, Nat.reduceEqDiff, reduceCtorEq, AS, (h.up B).Xlen, hlk]
  refine X_mks (x := (0 : El 16)) hbig (by omega) fun sr w1 orr hB => ?_
  have hrn : Fw.blk sr ≠ none := orr.bne (by intro e; have := congrArg List.length e; simp at this)
  have hoff : ∀ b, Fw.blk sr = some b → Off sb hs b := fun b hb => hoffR b (orr.blk b hb).1
  have hrb : ∀ b, Fw.blk sr = some b → b < w1.heap.size := fun b hb => (orr.blk b hb).2
  have orr := orr.mono W2
  have W1 := hB.size
  have b1 := b1.up hB
  have B := B.trans (hB.mono B.size)
  clear hB
  simp (maxSteps := 1000000) (disch := omega) only [WS, List.getElem_cons_zero, List.getElem_cons_succ, Option.isNone_some, Option.isNone_none, List.getD_cons_zero, List.getD_cons_succ, I.at, atL, atO, atP, evp, evs, retV, ↓reduceIte, Nat.reduceEqDiff, reduceCtorEq, AS]
  refine orr.Xcpy (h.up B) fun w3 or3 hg => ?_
  rw [show l.take (List.replicate (2 ^ k) (0 : El 16)).length ++ (List.replicate (2 ^ k) (0 : El 16)).drop l.length = l by rw [List.length_replicate, ← hlk]; simp] at or3
  have b1 := b1.grw hoff hrn hg
  have B := B.grown hg B.size fun b hb => (orr.blk b hb).1
  have W3 := hg.size
  clear orr hg
  simp (maxSteps := 1000000) (disch := omega) only [WS, List.getElem_cons_zero, List.getElem_cons_succ, Option.isNone_some, Option.isNone_none, List.getD_cons_zero, List.getD_cons_succ, I.at, atL, atO, atP, evp, evs, retV, ↓reduceIte, Nat.reduceEqDiff, reduceCtorEq, AS, (h.up B).Xlen, hlk]
  refine X_mks (x := (0 : El 16)) hbig (by omega) fun sd w4 od hB => ?_
  have hdn : Fw.blk sd ≠ none := od.bne (by intro e; have := congrArg List.length e; simp at this)
  have hdb : ∀ b, Fw.blk sd = some b → w3.heap.size ≤ b := fun b hb => (od.blk b hb).1
  have hoffd : ∀ b, Fw.blk sd = some b → Off sb hs b := fun b hb => hoffR b (by have := hdb b hb; omega)
  have hrd : Fw.blk sr ≠ Fw.blk sd := fun e => by
    obtain ⟨b, hb⟩ := Option.ne_none_iff_exists'.1 hrn
    have := hrb b hb
    have := hdb b (e ▸ hb)
    omega
  have od := od.mono B.size
  have orr := or3.up hB
  clear or3
  have b1 := b1.up hB
  have B := B.trans (hB.mono B.size)
  clear hB
  have e0 : IntKind.i64.wrap (((2 ^ k : Nat) : Int) - 1) = ((2 ^ k : Nat) : Int) - 1 := wrap_id (by omega) (by omega)
  simp (maxSteps := 1000000) only [WS, List.getElem_cons_zero, List.getElem_cons_succ, Option.isNone_some, Option.isNone_none, List.getD_cons_zero, List.getD_cons_succ, I.at, atL, atO, atP, evp, evs, retV, ↓reduceIte, Nat.reduceEqDiff, reduceCtorEq, (h.up B).Xlen, hlk, e0]
  refine loop_of (fun t w' => t 4 = sb ∧ t 5 = sr ∧ t 6 = sd ∧ RowKit.Below w.heap.size w w' ∧ Bas w.heap.size w' sb hs L ∧ ∃ (j : Nat) (rm dm : List (El 16)), t 7 = .int .i64 ((j : Int) - 1) ∧ j ≤ 2 ^ k ∧ Ow w.heap.size w' sr rm ∧ rm.length = 2 ^ k ∧ Ow w.heap.size w' sd dm ∧ dm.length = 2 ^ k ∧
      Dg (co rm) j ∧ (∀ u, u < j → (co dm).c u = 0) ∧ co rm + mP k (co dm).c (2 ^ k) = co l)
    (fun t _ => (toI (t 7) + 1).toNat) ⟨by simp only [WS, List.getElem_cons_zero, List.getElem_cons_succ, Option.isNone_some, Option.isNone_none, List.getD_cons_zero, List.getD_cons_succ, I.at, atL, atO, atP, evp, evs, retV, ↓reduceIte, Nat.reduceEqDiff, reduceCtorEq], by simp only [WS, List.getElem_cons_zero, List.getElem_cons_succ, Option.isNone_some, Option.isNone_none, List.getD_cons_zero, List.getD_cons_succ, I.at, atL, atO, atP, evp, evs, retV, ↓reduceIte, Nat.reduceEqDiff, reduceCtorEq], by simp only [WS, List.getElem_cons_zero, List.getElem_cons_succ, Option.isNone_some, Option.isNone_none, List.getD_cons_zero, List.getD_cons_succ, I.at, atL, atO, atP, evp, evs, retV, ↓reduceIte, Nat.reduceEqDiff, reduceCtorEq], B, b1, 2 ^ k, l, _, rfl, by omega, orr, hlk, od, List.length_replicate .., by rw [← hlk]; exact co_dg l, fun u _ => by rw [co_replicate]; rfl, by
      rw [co_replicate]
      have : ∀ n, mP k (0 : Ps 16).c n = 0 := fun n => by
        induction n with
        | zero => rfl
        | succ n ih => show mP k _ n + smP 0 _ = 0; rw [ih, zero_smP, Ps.add_zero]
      rw [this, Ps.add_zero]⟩ ?_
  clear B b1 orr od
  rintro t w4 ⟨t4, t5, t6, B, b1, j, rm, dm, t7, hj, orr, rl, od, dl, hdg, hd0, hsum⟩
  cases j with
  | zero =>
    rw [show ((0 : Nat) : Int) - 1 = -1 from rfl] at t7
    simp (maxSteps := 1000000) (disch := omega) only [WS, List.getElem_cons_zero, List.getElem_cons_succ, Option.isNone_some, Option.isNone_none, List.getD_cons_zero, List.getD_cons_succ, I.at, atL, atO, atP, evp, evs, retV, ↓reduceIte, Nat.reduceEqDiff, reduceCtorEq, AS, t4, t5, t6, t7, show decide ((0 : Int) ≤ -1) = false from rfl]
    refine ⟨B, Or.inl ⟨k, hk, rfl, sd, dm, rfl, od, dl, ?_⟩⟩
    rw [← hsum, hdg.zero, Ps.zero_add]
  | succ j =>
  rw [show ((j + 1 : Nat) : Int) - 1 = (j : Int) by omega] at t7
  have jh : j < hs.length := by omega
  have jr : j < rm.length := by omega
  have jd : j < dm.length := by omega
  obtain ⟨lj2, lj1⟩ := hL j (by omega)
  have e1 : IntKind.i64.wrap ((j : Int) - 1) = (j : Int) - 1 := wrap_id (by omega) (by omega)
  simp (maxSteps := 1000000) (disch := omega) only [WS, List.getElem_cons_zero, List.getElem_cons_succ, Option.isNone_some, Option.isNone_none, List.getD_cons_zero, List.getD_cons_succ, I.at, atL, atO, atP, evp, evs, retV, ↓reduceIte, Nat.reduceEqDiff, reduceCtorEq, decide_eq_true, Int.natCast_nonneg, t4, t5, t6, t7, orr.sl.Xix jr, orr.sl.Xld jr, od.sl.Xix jd]
  refine od.Xst jd rm[j] fun w5 od5 hg5 => ?_
  have B5 := B.grown hg5 B.size fun b hb => (od.blk b hb).1
  have b5 := b1.grw hoffd hdn hg5
  have or5 := orr.grown hg5 hrd
  have jd5 : j < (dm.set j rm[j]).length := by simpa using jd
  have g5 : (dm.set j rm[j])[j] = rm[j] := by simp
  have hcd : ∀ u, (co (dm.set j rm[j])).c u = if u = j then rm[j] else (co dm).c u := fun u => co_set dm jd rm[j] u
  have hupd : mP k (co (dm.set j rm[j])).c (2 ^ k) = mP k (co dm).c (2 ^ k) + smP rm[j] (xP k j) := by
    have := mP_upd (k := k) (d := (co dm).c) (e := (co (dm.set j rm[j])).c) (i := j) (hd0 j (by omega)) (fun u hu => by rw [hcd u, if_neg hu]) (n := 2 ^ k) (by omega)
    rw [this, hcd j, if_pos rfl]
  have hz5 : ∀ u, u < j → (co (dm.set j rm[j])).c u = 0 := fun u hu => by rw [hcd u, if_neg (by omega), hd0 u (by omega)]
  have l5 : (dm.set j rm[j]).length = 2 ^ k := by simpa using dl
  clear od b1 B orr
  simp (maxSteps := 1000000) only [WS, List.getElem_cons_zero, List.getElem_cons_succ, Option.isNone_some, Option.isNone_none, List.getD_cons_zero, List.getD_cons_succ, I.at, atL, atO, atP, evp, evs, retV, ↓reduceIte, Nat.reduceEqDiff, reduceCtorEq, t4, t5, t6, t7]
  have hxr := co_get rm jr
  generalize hx : rm[j] = x at *
  refine loop_of (fun t w' => t 4 = sb ∧ t 5 = sr ∧ t 6 = sd ∧ t 7 = .int .i64 (j : Int) ∧ RowKit.Below w.heap.size w w' ∧ Bas w.heap.size w' sb hs L ∧ Ow w.heap.size w' sd (dm.set j x) ∧
        ∃ (e : Nat) (m : List (El 16)), t 8 = .int .i64 (e : Int) ∧ e ≤ (L j).length ∧ Ow w.heap.size w' sr m ∧ m.length = 2 ^ k ∧ ∀ u, (co m).c u = (co rm).c u + (if u < e then x * (xP k j).c u else 0)) (fun t _ => (L j).length - (toI (t 8)).toNat)
      ⟨by simp only [WS, List.getElem_cons_zero, List.getElem_cons_succ, Option.isNone_some, Option.isNone_none, List.getD_cons_zero, List.getD_cons_succ, I.at, atL, atO, atP, evp, evs, retV, ↓reduceIte, Nat.reduceEqDiff, reduceCtorEq]; exact t4, by simp only [WS, List.getElem_cons_zero, List.getElem_cons_succ, Option.isNone_some, Option.isNone_none, List.getD_cons_zero, List.getD_cons_succ, I.at, atL, atO, atP, evp, evs, retV, ↓reduceIte, Nat.reduceEqDiff, reduceCtorEq]; exact t5, by simp only [WS, List.getElem_cons_zero, List.getElem_cons_succ, Option.isNone_some, Option.isNone_none, List.getD_cons_zero, List.getD_cons_succ, I.at, atL, atO, atP, evp, evs, retV, ↓reduceIte, Nat.reduceEqDiff, reduceCtorEq]; exact t6, by simp only [WS, List.getElem_cons_zero, List.getElem_cons_succ, Option.isNone_some, Option.isNone_none, List.getD_cons_zero, List.getD_cons_succ, I.at, atL, atO, atP, evp, evs, retV, ↓reduceIte, Nat.reduceEqDiff, reduceCtorEq]; exact t7, B5, b5, od5, 0, rm, rfl, by omega, or5, rl, fun u => by rw [if_neg (by omega), El.add_zero]⟩ ?_
  clear t4 t5 t6 t7 B5 b5 od5 or5
  rintro t w6 ⟨t4, t5, t6, t7, B, b1, od, e, m, t8, he, orr, ml, mc⟩
  have hrow := b1.get jh
  have fin : ∀ hm : co m = co rm + smP x (xP k j), Dg (co m) j ∧ co m + mP k (co (dm.set j x)).c (2 ^ k) = co l := fun hm => by
    refine ⟨fun u hu => ?_, ?_⟩
    · rw [hm, Ps.add_c]
      by_cases huj : u = j
      · subst huj
        rw [hxr]
        show x + x * (xP k u).c u = 0
        rw [xP_top k u (by omega), El.mul_one, El.add_self]
      · rw [hdg u (by omega), El.zero_add]
        show x * (xP k j).c u = 0
        rw [xP_dg k j (by omega) u (by omega), El.mul_zero]
    · rw [hupd, hm, ← hsum]
      refine Ps.ext fun u => ?_
      simp only [Ps.add_c]
      generalize (smP x (xP k j)).c u = z
      generalize (co rm).c u = a
      generalize (mP k (co dm).c (2 ^ k)).c u = b
      rw [show a + z + (b + z) = a + b + (z + z) by ac_rfl, El.add_self, El.add_zero]
  by_cases hel : e < (L j).length
  · by_cases hz : x = 0
    · have d1 : (!decide ((x.v.toNat : Int) = 0)) = false := by rw [decide_eq_true ((el_zero _).mpr hz)]; rfl
      have hm : co m = co rm + smP x (xP k j) := by
        refine Ps.ext fun u => ?_
        rw [mc u, hz, zero_smP, Ps.add_zero]
        split
        · rw [El.zero_mul, El.add_zero]
        · rw [El.add_zero]
      obtain ⟨f1, f2⟩ := fin hm
      simp (maxSteps := 1000000) (disch := omega) only [WS, List.getElem_cons_zero, List.getElem_cons_succ, Option.isNone_some, Option.isNone_none, List.getD_cons_zero, List.getD_cons_succ, I.at, atL, atO, atP, evp, evs, retV, ↓reduceIte, Nat.reduceEqDiff, reduceCtorEq, decide_eq_true, t4, t5, t6, t7, t8, b1.own.sl.Xix jh, b1.own.sl.Xld jh, hrow.sl.Xlen, od.sl.Xix jd5, od.sl.Xld jd5, g5, cell_e16, d1, e1, toI_int]
      exact ⟨⟨B, b1, j, m, _, rfl, by omega, orr, ml, od, l5, f1, hz5, f2⟩, by omega⟩
    · have d1 : (!decide ((x.v.toNat : Int) = 0)) = true := by rw [decide_eq_false (fun e => hz ((el_zero _).mp e))]; rfl
      have em : e < m.length := by omega
      simp (maxSteps := 1000000) (disch := omega) only [WS, List.getElem_cons_zero, List.getElem_cons_succ, Option.isNone_some, Option.isNone_none, List.getD_cons_zero, List.getD_cons_succ, I.at, atL, atO, atP, evp, evs, retV, ↓reduceIte, Nat.reduceEqDiff, reduceCtorEq, AS, t4, t5, t6, t7, t8, b1.own.sl.Xix jh, b1.own.sl.Xld jh, hrow.sl.Xlen, od.sl.Xix jd5, od.sl.Xld jd5, g5, cell_e16, d1]
      refine WP_dops ?_
      have hvd := orr.sl.drew
      have hod := od.sl.drew
      have hbd := b1.own.sl.drew
      have hrd' := hrow.sl.drew
      have see : Fw.sees Try.prog (.ld (.c (elP sr e))) w6.drew (.int .u16 (m[e].v.toNat : Int)) = True := hvd.sees em Try.prog
      have see3 : Fw.sees Try.prog (.ld (.c (elP (Cell.v hs[j]) e))) w6.drew (.int .u16 ((L j)[e].v.toNat : Int)) = True := hrd'.sees hel Try.prog
      simp (maxSteps := 1000000) (disch := omega) only [ES, List.mem_cons, List.not_mem_nil, implies_true, forall_const, WS, List.getElem_cons_zero, List.getElem_cons_succ, Option.isNone_some, Option.isNone_none, List.getD_cons_zero, List.getD_cons_succ, I.at, atL, atO, atP, evp, evs, retV, ↓reduceIte, Nat.reduceEqDiff, reduceCtorEq, AS, t4, t5, t6, t7, t8, hvd.Eix em, hvd.Eld em, hod.Eix jd5, hod.Eld jd5, g5, hbd.Eix jh, hbd.Eld jh, hrd'.Eix hel, hrd'.Eld hel, cell_e16]
      refine E_call0 ((culletref03_Mul_spec w6.drew x (L j)[e]).mono ?_)
      rintro _ w7 ⟨rfl, rfl⟩
      simp (maxSteps := 1000000) (disch := omega) only [ES, List.mem_cons, List.not_mem_nil, implies_true, forall_const, WS, List.getElem_cons_zero, List.getElem_cons_succ, Option.isNone_some, Option.isNone_none, List.getD_cons_zero, List.getD_cons_succ, I.at, atL, atO, atP, evp, evs, retV, ↓reduceIte, Nat.reduceEqDiff, reduceCtorEq, AS, see, see3, xor16, hvd.Eix em, t4, t5, t6, t7, t8]
      refine Ow.Est orr.drew em (m[e] + x * (L j)[e]) fun w8 or8 hg8 => ?_
      simp (maxSteps := 1000000) (disch := omega) only [ES, List.mem_cons, List.not_mem_nil, implies_true, forall_const, WS, List.getElem_cons_zero, List.getElem_cons_succ, Option.isNone_some, Option.isNone_none, List.getD_cons_zero, List.getD_cons_succ, I.at, atL, atO, atP, evp, evs, retV, ↓reduceIte, Nat.reduceEqDiff, reduceCtorEq, AS, t4, t5, t6, t7, t8]
      refine ⟨⟨B.grown (grown_of_drew hg8) B.size fun b hb => (orr.blk b hb).1, b1.grw hoff hrn (grown_of_drew hg8), od.grown (grown_of_drew hg8) (fun e => hrd e.symm), e + 1, _, rfl, by omega, or8, by simp [ml], fun u => ?_⟩, by omega⟩
      rw [co_set _ em, mc u]
      by_cases hu : u = e
      · subst hu
        rw [if_pos rfl, if_pos (by omega), ← co_get m em, mc u, if_neg (by omega), El.add_zero, ← lj2, co_get (L j) hel]
      · rw [if_neg hu]
        congr 1
        by_cases hue : u < e
        · rw [if_pos hue, if_pos (by omega)]
        · rw [if_neg hue, if_neg (by omega)]
  · obtain rfl : e = (L j).length := by omega
    have hm : co m = co rm + smP x (xP k j) := by
      refine Ps.ext fun u => ?_
      rw [mc u, Ps.add_c]
      congr 1
      show _ = x * (xP k j).c u
      by_cases hu : u < (L j).length
      · rw [if_pos hu]
      · rw [if_neg hu, ← lj2, co_dg (L j) u (by omega), El.mul_zero]
    obtain ⟨f1, f2⟩ := fin hm
    simp (maxSteps := 1000000) (disch := omega) only [WS, List.getElem_cons_zero, List.getElem_cons_succ, Option.isNone_some, Option.isNone_none, List.getD_cons_zero, List.getD_cons_succ, I.at, atL, atO, atP, evp, evs, retV, ↓reduceIte, Nat.reduceEqDiff, reduceCtorEq, decide_eq_false, t4, t5, t6, t7, t8, b1.own.sl.Xix jh, b1.own.sl.Xld jh, hrow.sl.Xlen, e1, toI_int]
    exact ⟨⟨B, b1, j, m, _, rfl, by omega, orr, ml, od, l5, f1, hz5, f2⟩, by omega⟩
theorem list_of_mP {k : Nat} {a b : List (El 16)} (ha : a.length = 2 ^ k) (hb : b.length = 2 ^ k) (h : mP k (co a).c (2 ^ k) = mP k (co b).c (2 ^ k)) : a = b := co_ext (ha.trans hb.symm) (Ps.ext fun i => by
  by_cases hi : i < 2 ^ k
  · exact mP_inj (Nat.le_refl _) h i hi
  · rw [co_dg a i (by omega), co_dg b i (by omega)])
theorem culletlaw13_lists7_spec (w : World) (vs : List Value) (h : OpQ w vs 7) :
    CallV Try.prog 39 [.agg vs.toArray] w fun v w' => v = .bool true ∧ RowKit.Below w.heap.size w w' := by
  obtain ⟨i, j, x, d, l, rfl, hd, hl⟩ := h
  refine run_culletlaw13_lists (by simp) ?_
  simp only [c_culletlaw13_lists, WS, List.getElem_cons_zero, List.getElem_cons_succ, Option.isNone_some, Option.isNone_none, List.getD_cons_zero, List.getD_cons_succ, I.at, atL, atO, atP, evp, evs, retV, ↓reduceIte, Nat.reduceEqDiff, reduceCtorEq]
  refine X_box fun b w1 hr hb hB => ?_
  have hr : Row w1 b [.int .i64 7, .int .i64 i, .int .i64 j, .int .u16 (x.v.toNat : Int), d] := hr
  have B := hB
  have hd := hd.up hB
  clear hB
  simp (maxSteps := 1000000) (disch := omega) only [WS, List.getElem_cons_zero, List.getElem_cons_succ, Option.isNone_some, Option.isNone_none, List.getD_cons_zero, List.getD_cons_succ, I.at, atL, atO, atP, evp, evs, retV, ↓reduceIte, Nat.reduceEqDiff, reduceCtorEq, AS, row5_0 hr, show decide ((7 : Int) = 5) = false from rfl]
  refine WP_dops ?_
  have hrd := hr.drew
  have see := row5s_0 hrd Try.prog
  simp (maxSteps := 1000000) (disch := omega) only [ES, List.mem_cons, List.not_mem_nil, implies_true, forall_const, WS, List.getElem_cons_zero, List.getElem_cons_succ, Option.isNone_some, Option.isNone_none, List.getD_cons_zero, List.getD_cons_succ, I.at, atL, atO, atP, evp, evs, retV, ↓reduceIte, Nat.reduceEqDiff, reduceCtorEq, AS, row5e_0 hrd, row5e_4 hrd]
  refine E_call0 ((culletlaw13_twin_spec w1.drew d l hd.drew hl).mono ?_)
  rintro st w2 ⟨ot, hB⟩
  have ot := ot.sl
  have hB := (bel_drew w1).trans hB
  have hr2 := hr.up hB
  have see2 := row5s_0 hr2 Try.prog
  have hd := hd.up hB
  have B := B.trans (hB.mono B.size)
  clear hB
  simp (maxSteps := 1000000) (disch := omega) only [ES, List.mem_cons, List.not_mem_nil, implies_true, forall_const, WS, List.getElem_cons_zero, List.getElem_cons_succ, Option.isNone_some, Option.isNone_none, List.getD_cons_zero, List.getD_cons_succ, I.at, atL, atO, atP, evp, evs, retV, ↓reduceIte, Nat.reduceEqDiff, reduceCtorEq, AS, see, see2]
  refine E_call0 ((culletlaw13_asked7_spec w2 st l ot hl).mono ?_)
  rintro _ w3 ⟨hB, h1⟩
  have hr3 := hr2.up hB
  rcases h1 with ⟨k, hk, hlk, sa, a, rfl, oa, al, ac⟩ | ⟨hbad, rfl⟩
  · have oa := oa.sl
    have hd := hd.up hB
    have B := B.trans (hB.mono B.size)
    clear hB
    simp (maxSteps := 1000000) (disch := omega) only [ES, List.mem_cons, List.not_mem_nil, implies_true, forall_const, WS, List.getElem_cons_zero, List.getElem_cons_succ, Option.isNone_some, Option.isNone_none, List.getD_cons_zero, List.getD_cons_succ, I.at, atL, atO, atP, evp, evs, retV, ↓reduceIte, Nat.reduceEqDiff, reduceCtorEq, AS, row5e_0 hr3]
    simp (maxSteps := 1000000) (disch := omega) only [WS, List.getElem_cons_zero, List.getElem_cons_succ, Option.isNone_some, Option.isNone_none, List.getD_cons_zero, List.getD_cons_succ, I.at, atL, atO, atP, evp, evs, retV, ↓reduceIte, Nat.reduceEqDiff, reduceCtorEq, AS, row5_0 hr3, row5_4 hr3, show decide ((7 : Int) = 6) = false from rfl, show decide ((7 : Int) = 7) = true from rfl]
    refine X_call0 ((culletref13_ToMonomials_spec w3 d l hd hl).mono ?_)
    rintro _ w4 ⟨hB, ⟨k2, -, hlk2, sc, c, rfl, oc, cl, cc⟩ | ⟨hbad, -⟩⟩
    · obtain rfl : k2 = k := (Nat.pow_right_inj (a := 2) (by omega)).1 (hlk2.symm.trans hlk)
      have oc := oc.sl
      have oa := oa.up hB
      have B := B.trans (hB.mono B.size)
      clear hB
      have he : a = c := co_ext (al.trans cl.symm) (ac.trans cc.symm)
      have hk16 : 2 ^ k2 ≤ 256 := by have : 2 ^ k2 ≤ 2 ^ 8 := Nat.pow_le_pow_right (by omega) hk; omega
      simp (maxSteps := 1000000) (disch := omega) only [WS, List.getElem_cons_zero, List.getElem_cons_succ, Option.isNone_some, Option.isNone_none, List.getD_cons_zero, List.getD_cons_succ, I.at, atL, atO, atP, evp, evs, retV, ↓reduceIte, Nat.reduceEqDiff, reduceCtorEq, AS]
      refine X_call0 ((culletlaw13_same_spec w4 sa sc a c oa oc (by omega) (by omega)).mono ?_)
      rintro _ w5 ⟨rfl, hk1⟩
      have hB := hk1.1
      have B := B.trans (hB.mono B.size)
      clear hB
      rw [decide_eq_true he]
      simp (maxSteps := 1000000) (disch := omega) only [WS, List.getElem_cons_zero, List.getElem_cons_succ, Option.isNone_some, Option.isNone_none, List.getD_cons_zero, List.getD_cons_succ, I.at, atL, atO, atP, evp, evs, retV, ↓reduceIte, Nat.reduceEqDiff, reduceCtorEq, AS, show decide ((0 : Int) = 0) = true from rfl]
      exact B
    · have hk16 : 2 ^ k ≤ 256 := by have : 2 ^ k ≤ 2 ^ 8 := Nat.pow_le_pow_right (by omega) hk; omega
      have := Nat.two_pow_pos k
      exact absurd ⟨by omega, by omega, by rw [hlk]; exact and_pred_pow k⟩ hbad
  · have hd := hd.up hB
    have B := B.trans (hB.mono B.size)
    clear hB
    simp (maxSteps := 1000000) (disch := omega) only [ES, List.mem_cons, List.not_mem_nil, implies_true, forall_const, WS, List.getElem_cons_zero, List.getElem_cons_succ, Option.isNone_some, Option.isNone_none, List.getD_cons_zero, List.getD_cons_succ, I.at, atL, atO, atP, evp, evs, retV, ↓reduceIte, Nat.reduceEqDiff, reduceCtorEq, AS, row5e_0 hr3]
    simp (maxSteps := 1000000) (disch := omega) only [WS, List.getElem_cons_zero, List.getElem_cons_succ, Option.isNone_some, Option.isNone_none, List.getD_cons_zero, List.getD_cons_succ, I.at, atL, atO, atP, evp, evs, retV, ↓reduceIte, Nat.reduceEqDiff, reduceCtorEq, AS, row5_0 hr3, row5_4 hr3, show decide ((7 : Int) = 6) = false from rfl, show decide ((7 : Int) = 7) = true from rfl]
    refine X_call0 ((culletref13_ToMonomials_spec w3 d l hd hl).mono ?_)
    rintro _ w4 ⟨hB, ⟨k, hk, hlk, -⟩ | ⟨-, rfl⟩⟩
    · have hk16 : 2 ^ k ≤ 256 := by have : 2 ^ k ≤ 2 ^ 8 := Nat.pow_le_pow_right (by omega) hk; omega
      have := Nat.two_pow_pos k
      exact absurd ⟨by omega, by omega, by rw [hlk]; exact and_pred_pow k⟩ hbad
    · have B := B.trans (hB.mono B.size)
      clear hB
      simp (maxSteps := 1000000) (disch := omega) only [WS, List.getElem_cons_zero, List.getElem_cons_succ, Option.isNone_some, Option.isNone_none, List.getD_cons_zero, List.getD_cons_succ, I.at, atL, atO, atP, evp, evs, retV, ↓reduceIte, Nat.reduceEqDiff, reduceCtorEq, AS]
      refine X_call0 ((culletlaw13_same_spec w4 _ _ _ _ (Sl.nil (α := El 16) w4) (Sl.nil (α := El 16) w4) (by simp) (by simp)).mono ?_)
      rintro _ w5 ⟨rfl, hk1⟩
      have hB := hk1.1
      have B := B.trans (hB.mono B.size)
      clear hB
      rw [decide_eq_true rfl]
      simp (maxSteps := 1000000) (disch := omega) only [WS, List.getElem_cons_zero, List.getElem_cons_succ, Option.isNone_some, Option.isNone_none, List.getD_cons_zero, List.getD_cons_succ, I.at, atL, atO, atP, evp, evs, retV, ↓reduceIte, Nat.reduceEqDiff, reduceCtorEq, AS, show decide ((130 : Int) = 130) = true from rfl]
      exact B
theorem culletlaw13_lists8_spec (w : World) (vs : List Value) (h : OpQ w vs 8) :
    CallV Try.prog 39 [.agg vs.toArray] w fun v w' => v = .bool true ∧ RowKit.Below w.heap.size w w' := by
  obtain ⟨i, j, x, d, l, rfl, hd, hl⟩ := h
  refine run_culletlaw13_lists (by simp) ?_
  simp only [c_culletlaw13_lists, WS, List.getElem_cons_zero, List.getElem_cons_succ, Option.isNone_some, Option.isNone_none, List.getD_cons_zero, List.getD_cons_succ, I.at, atL, atO, atP, evp, evs, retV, ↓reduceIte, Nat.reduceEqDiff, reduceCtorEq]
  refine X_box fun b w1 hr hb hB => ?_
  have hr : Row w1 b [.int .i64 8, .int .i64 i, .int .i64 j, .int .u16 (x.v.toNat : Int), d] := hr
  have B := hB
  have hd := hd.up hB
  clear hB
  simp (maxSteps := 1000000) (disch := omega) only [WS, List.getElem_cons_zero, List.getElem_cons_succ, Option.isNone_some, Option.isNone_none, List.getD_cons_zero, List.getD_cons_succ, I.at, atL, atO, atP, evp, evs, retV, ↓reduceIte, Nat.reduceEqDiff, reduceCtorEq, AS, row5_0 hr, show decide ((8 : Int) = 5) = false from rfl]
  refine WP_dops ?_
  have hrd := hr.drew
  have see := row5s_0 hrd Try.prog
  simp (maxSteps := 1000000) (disch := omega) only [ES, List.mem_cons, List.not_mem_nil, implies_true, forall_const, WS, List.getElem_cons_zero, List.getElem_cons_succ, Option.isNone_some, Option.isNone_none, List.getD_cons_zero, List.getD_cons_succ, I.at, atL, atO, atP, evp, evs, retV, ↓reduceIte, Nat.reduceEqDiff, reduceCtorEq, AS, row5e_0 hrd, row5e_4 hrd]
  refine E_call0 ((culletlaw13_twin_spec w1.drew d l hd.drew hl).mono ?_)
  rintro st w2 ⟨ot, hB⟩
  have ot := ot.sl
  have hB := (bel_drew w1).trans hB
  have hr2 := hr.up hB
  have see2 := row5s_0 hr2 Try.prog
  have hd := hd.up hB
  have B := B.trans (hB.mono B.size)
  clear hB
  simp (maxSteps := 1000000) (disch := omega) only [ES, List.mem_cons, List.not_mem_nil, implies_true, forall_const, WS, List.getElem_cons_zero, List.getElem_cons_succ, Option.isNone_some, Option.isNone_none, List.getD_cons_zero, List.getD_cons_succ, I.at, atL, atO, atP, evp, evs, retV, ↓reduceIte, Nat.reduceEqDiff, reduceCtorEq, AS, see, see2]
  refine E_call0 ((culletlaw13_asked8_spec w2 st l ot hl).mono ?_)
  rintro _ w3 ⟨hB, h1⟩
  have hr3 := hr2.up hB
  rcases h1 with ⟨k, hk, hlk, sa, a, rfl, oa, al, ac⟩ | ⟨hbad, rfl⟩
  · have oa := oa.sl
    have hd := hd.up hB
    have B := B.trans (hB.mono B.size)
    clear hB
    simp (maxSteps := 1000000) (disch := omega) only [ES, List.mem_cons, List.not_mem_nil, implies_true, forall_const, WS, List.getElem_cons_zero, List.getElem_cons_succ, Option.isNone_some, Option.isNone_none, List.getD_cons_zero, List.getD_cons_succ, I.at, atL, atO, atP, evp, evs, retV, ↓reduceIte, Nat.reduceEqDiff, reduceCtorEq, AS, row5e_0 hr3]
    simp (maxSteps := 1000000) (disch := omega) only [WS, List.getElem_cons_zero, List.getElem_cons_succ, Option.isNone_some, Option.isNone_none, List.getD_cons_zero, List.getD_cons_succ, I.at, atL, atO, atP, evp, evs, retV, ↓reduceIte, Nat.reduceEqDiff, reduceCtorEq, AS, row5_0 hr3, row5_4 hr3, show decide ((8 : Int) = 6) = false from rfl, show decide ((8 : Int) = 7) = false from rfl]
    refine X_call0 ((culletref13_FromMonomials_spec w3 d l hd hl).mono ?_)
    rintro _ w4 ⟨hB, ⟨k2, -, hlk2, sc, c, rfl, oc, cl, cc⟩ | ⟨hbad, -⟩⟩
    · obtain rfl : k2 = k := (Nat.pow_right_inj (a := 2) (by omega)).1 (hlk2.symm.trans hlk)
      have oc := oc.sl
      have oa := oa.up hB
      have B := B.trans (hB.mono B.size)
      clear hB
      have he : a = c := list_of_mP al cl (ac.trans cc.symm)
      have hk16 : 2 ^ k2 ≤ 256 := by have : 2 ^ k2 ≤ 2 ^ 8 := Nat.pow_le_pow_right (by omega) hk; omega
      simp (maxSteps := 1000000) (disch := omega) only [WS, List.getElem_cons_zero, List.getElem_cons_succ, Option.isNone_some, Option.isNone_none, List.getD_cons_zero, List.getD_cons_succ, I.at, atL, atO, atP, evp, evs, retV, ↓reduceIte, Nat.reduceEqDiff, reduceCtorEq, AS]
      refine X_call0 ((culletlaw13_same_spec w4 sa sc a c oa oc (by omega) (by omega)).mono ?_)
      rintro _ w5 ⟨rfl, hk1⟩
      have hB := hk1.1
      have B := B.trans (hB.mono B.size)
      clear hB
      rw [decide_eq_true he]
      simp (maxSteps := 1000000) (disch := omega) only [WS, List.getElem_cons_zero, List.getElem_cons_succ, Option.isNone_some, Option.isNone_none, List.getD_cons_zero, List.getD_cons_succ, I.at, atL, atO, atP, evp, evs, retV, ↓reduceIte, Nat.reduceEqDiff, reduceCtorEq, AS, show decide ((0 : Int) = 0) = true from rfl]
      exact B
    · have hk16 : 2 ^ k ≤ 256 := by have : 2 ^ k ≤ 2 ^ 8 := Nat.pow_le_pow_right (by omega) hk; omega
      have := Nat.two_pow_pos k
      exact absurd ⟨by omega, by omega, by rw [hlk]; exact and_pred_pow k⟩ hbad
  · have hd := hd.up hB
    have B := B.trans (hB.mono B.size)
    clear hB
    simp (maxSteps := 1000000) (disch := omega) only [ES, List.mem_cons, List.not_mem_nil, implies_true, forall_const, WS, List.getElem_cons_zero, List.getElem_cons_succ, Option.isNone_some, Option.isNone_none, List.getD_cons_zero, List.getD_cons_succ, I.at, atL, atO, atP, evp, evs, retV, ↓reduceIte, Nat.reduceEqDiff, reduceCtorEq, AS, row5e_0 hr3]
    simp (maxSteps := 1000000) (disch := omega) only [WS, List.getElem_cons_zero, List.getElem_cons_succ, Option.isNone_some, Option.isNone_none, List.getD_cons_zero, List.getD_cons_succ, I.at, atL, atO, atP, evp, evs, retV, ↓reduceIte, Nat.reduceEqDiff, reduceCtorEq, AS, row5_0 hr3, row5_4 hr3, show decide ((8 : Int) = 6) = false from rfl, show decide ((8 : Int) = 7) = false from rfl]
    refine X_call0 ((culletref13_FromMonomials_spec w3 d l hd hl).mono ?_)
    rintro _ w4 ⟨hB, ⟨k, hk, hlk, -⟩ | ⟨-, rfl⟩⟩
    · have hk16 : 2 ^ k ≤ 256 := by have : 2 ^ k ≤ 2 ^ 8 := Nat.pow_le_pow_right (by omega) hk; omega
      have := Nat.two_pow_pos k
      exact absurd ⟨by omega, by omega, by rw [hlk]; exact and_pred_pow k⟩ hbad
    · have B := B.trans (hB.mono B.size)
      clear hB
      simp (maxSteps := 1000000) (disch := omega) only [WS, List.getElem_cons_zero, List.getElem_cons_succ, Option.isNone_some, Option.isNone_none, List.getD_cons_zero, List.getD_cons_succ, I.at, atL, atO, atP, evp, evs, retV, ↓reduceIte, Nat.reduceEqDiff, reduceCtorEq, AS]
      refine X_call0 ((culletlaw13_same_spec w4 _ _ _ _ (Sl.nil (α := El 16) w4) (Sl.nil (α := El 16) w4) (by simp) (by simp)).mono ?_)
      rintro _ w5 ⟨rfl, hk1⟩
      have hB := hk1.1
      have B := B.trans (hB.mono B.size)
      clear hB
      rw [decide_eq_true rfl]
      simp (maxSteps := 1000000) (disch := omega) only [WS, List.getElem_cons_zero, List.getElem_cons_succ, Option.isNone_some, Option.isNone_none, List.getD_cons_zero, List.getD_cons_succ, I.at, atL, atO, atP, evp, evs, retV, ↓reduceIte, Nat.reduceEqDiff, reduceCtorEq, AS, show decide ((130 : Int) = 130) = true from rfl]
      exact B
theorem culletlaw13_LchTurns_spec (w : World) (s : Value) (rows : List (List Value)) (h : Slw 5 w s rows) (hb : rows.length ≤ 70368744175616) (hq : ∀ vs ∈ rows, ∃ k, OpQ w vs k) :
    CallV Try.prog 11 [s] w fun v w' => v = .bool true ∧ RowKit.Below w.heap.size w w' := by
  refine run_culletlaw13_LchTurns (by simp) ?_
  simp only [c_culletlaw13_LchTurns, WS, List.getElem_cons_zero, List.getElem_cons_succ, Option.isNone_some, Option.isNone_none, List.getD_cons_zero, List.getD_cons_succ, I.at, atL, atO, atP, evp, evs, retV, ↓reduceIte, Nat.reduceEqDiff, reduceCtorEq]
  have hls : ∀ w vs k, OpQ w vs k → (7 : Int) ≤ k → k ≤ 8 → 4 < k → CallV Try.prog 39 [.agg vs.toArray] w fun v w' => v = .bool true ∧ RowKit.Below w.heap.size w w' := fun w vs k hop h1 h2 h4 => by
    have hk : k = 7 ∨ k = 8 := by omega
    rcases hk with rfl | rfl
    · exact culletlaw13_lists7_spec w vs hop
    · exact culletlaw13_lists8_spec w vs hop
  refine X_call0 ((culletlaw13_all_spec w s rows 7 8 h hb hq (fun w vs k hop h1 h2 h4 => by omega) hls).mono ?_)
  rintro _ w1 ⟨rfl, hB⟩
  simp (maxSteps := 1000000) (disch := omega) only [WS, List.getElem_cons_zero, List.getElem_cons_succ, Option.isNone_some, Option.isNone_none, List.getD_cons_zero, List.getD_cons_succ, I.at, atL, atO, atP, evp, evs, retV, ↓reduceIte, Nat.reduceEqDiff, reduceCtorEq, AS]
  exact hB
end Go.Proofs.Ytcnabolainmaeaa.Fw
