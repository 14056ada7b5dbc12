import Derived.Test.YtbaljbadlfopgaaProg
import Derived.Test.YtbaljbadlfopgaaFwTY
import Derived.Test.YtbaljbadlfopgaaGfEY
import Derived.Test.YtbaljbadlfopgaaGfXY
import Derived.Test.YtbaljbadlfopgaaGfSY
set_option linter.all false
set_option linter.unusedVariables false
set_option linter.unusedSimpArgs false
set_option maxRecDepth 100000
set_option maxHeartbeats 1000000
namespace Go.Proofs.Ytbaljbadlfopgaa.Fw
open Go Go.Fw Go.Proofs
attribute [local irreducible] stepI
def c_polys_Ring_b_Partial : C := .seq (.ops [⟨0, (some 8), none, .mov (.c (.slice none 0 0)), []⟩, ⟨1, (some 9), none, .mov (.c (.slice none 0 0)), []⟩, ⟨2, (some 10), none, .mov (.c (.slice none 0 0)), []⟩, ⟨3, (some 11), none, .mov (.c (.int .i64 0)), []⟩]) (.seq (.seq (.ops [⟨0, (some 19), none, .mov (.t 0), []⟩, ⟨1, (some 20), none, .mov (.t 1), []⟩, ⟨2, (some 21), none, .mov (.t 2), []⟩, ⟨3, (some 22), none, .bsl 25 2 [.slice none 0 0] [(0, (1, .t 20)), (1, (1, .t 21))], []⟩, ⟨4, (some 23), none, .call (.c (.func (.func 87) #[] #[])) [.t 19, .t 22], []⟩, ⟨5, (some 12), none, .mov (.t 23), []⟩]) (.seq (.ops [⟨0, (some 24), none, .mov (.t 12), []⟩, ⟨1, (some 25), none, .bin .neq (.t 24) (.c (.int .i64 0)), []⟩]) (.ite (.t 25) (.seq (.ops [⟨0, (some 26), none, .mov (.t 12), []⟩, ⟨1, (some 8), none, .mov (.c (.slice none 0 0)), []⟩, ⟨2, (some 9), none, .mov (.c (.slice none 0 0)), []⟩, ⟨3, (some 10), none, .mov (.c (.slice none 0 0)), []⟩, ⟨4, (some 11), none, .mov (.t 26), []⟩]) .ret) .skip))) (.seq (.seq (.ops [⟨0, (some 27), none, .mov (.t 3), []⟩, ⟨1, (some 28), none, .bin .lss (.t 27) (.c (.int .i64 0)), []⟩]) (.ite (.t 28) (.seq (.ops [⟨0, (some 8), none, .mov (.c (.slice none 0 0)), []⟩, ⟨1, (some 9), none, .mov (.c (.slice none 0 0)), []⟩, ⟨2, (some 10), none, .mov (.c (.slice none 0 0)), []⟩, ⟨3, (some 11), none, .mov (.c (.int .i64 7)), []⟩]) .ret) .skip)) (.seq (.ops [⟨0, (some 29), none, .mov (.t 1), []⟩, ⟨1, (some 30), none, .call (.c (.func (.func 125) #[] #[])) [.t 29], []⟩, ⟨2, (some 31), none, .mov (.t 2), []⟩, ⟨3, (some 32), none, .call (.c (.func (.func 125) #[] #[])) [.t 31], []⟩, ⟨4, (some 13), none, .mov (.t 30), []⟩, ⟨5, (some 14), none, .mov (.t 32), []⟩]) (.seq (.ops [⟨0, (some 33), none, .bsl 5 1 [.int .u8 0] [(0, (1, .c (.int .u8 1)))], []⟩, ⟨1, (some 9), none, .mov (.t 33), []⟩, ⟨2, (some 10), none, .mov (.c (.slice none 0 0)), []⟩]) (.seq (.ops [⟨0, (some 34), none, .bsl 5 1 [.int .u8 0] [(0, (1, .c (.int .u8 1)))], []⟩, ⟨1, (some 15), none, .mov (.c (.slice none 0 0)), []⟩, ⟨2, (some 16), none, .mov (.t 34), []⟩]) (.seq (.block 0 (.loop (.seq (.seq (.ops [⟨0, (some 35), none, .mov (.t 13), []⟩, ⟨1, (some 36), none, .len (.t 35), []⟩, ⟨2, (some 37), none, .bin .sub (.t 36) (.c (.int .i64 1)), []⟩, ⟨3, (some 38), none, .mov (.t 3), []⟩, ⟨4, (some 39), none, .bin .geq (.t 37) (.t 38), []⟩]) (.ite (.t 39) .skip (.exit 0))) (.block 1 (.seq (.seq (.ops [⟨0, (some 40), none, .mov (.t 14), []⟩, ⟨1, (some 41), none, .len (.t 40), []⟩, ⟨2, (some 42), none, .bin .eql (.t 41) (.c (.int .i64 0)), []⟩]) (.ite (.t 42) (.seq (.ops [⟨0, (some 43), none, .mov (.t 15), []⟩, ⟨1, (some 44), none, .call (.c (.func (.func 125) #[] #[])) [.t 43], []⟩, ⟨2, (some 45), none, .mov (.t 16), []⟩, ⟨3, (some 46), none, .call (.c (.func (.func 125) #[] #[])) [.t 45], []⟩, ⟨4, (some 8), none, .mov (.c (.slice none 0 0)), []⟩, ⟨5, (some 9), none, .mov (.t 44), []⟩, ⟨6, (some 10), none, .mov (.t 46), []⟩, ⟨7, (some 11), none, .mov (.c (.int .i64 0)), []⟩]) .ret) .skip)) (.seq (.ops [⟨0, (some 48), none, .mov (.t 0), []⟩, ⟨1, (some 49), none, .mov (.t 13), []⟩, ⟨2, (some 50), none, .mov (.t 14), []⟩, ⟨3, (some 51), none, .call (.c (.func (.func 127) #[] #[])) [.t 48, .t 49, .t 50], []⟩, ⟨4, (some 47), none, .mov (.t 51), []⟩, ⟨5, (some 52), none, .ext (.t 47) 0, []⟩, ⟨6, (some 53), none, .ext (.t 47) 1, []⟩, ⟨7, (some 17), none, .mov (.t 52), []⟩, ⟨8, (some 18), none, .mov (.t 53), []⟩]) (.seq (.ops [⟨0, (some 54), none, .mov (.t 14), []⟩, ⟨1, (some 55), none, .mov (.t 18), []⟩, ⟨2, (some 13), none, .mov (.t 54), []⟩, ⟨3, (some 14), none, .mov (.t 55), []⟩]) (.seq (.ops [⟨0, (some 56), none, .mov (.t 15), []⟩, ⟨1, (some 57), none, .mov (.t 9), []⟩, ⟨2, (some 58), none, .mov (.t 0), []⟩, ⟨3, (some 59), none, .mov (.t 17), []⟩, ⟨4, (some 60), none, .mov (.t 15), []⟩, ⟨5, (some 61), none, .call (.c (.func (.func 129) #[] #[])) [.t 58, .t 59, .t 60], []⟩, ⟨6, (some 62), none, .call (.c (.func (.func 128) #[] #[])) [.t 57, .t 61], []⟩, ⟨7, (some 9), none, .mov (.t 56), []⟩, ⟨8, (some 15), none, .mov (.t 62), []⟩]) (.ops [⟨0, (some 63), none, .mov (.t 16), []⟩, ⟨1, (some 64), none, .mov (.t 10), []⟩, ⟨2, (some 65), none, .mov (.t 0), []⟩, ⟨3, (some 66), none, .mov (.t 17), []⟩, ⟨4, (some 67), none, .mov (.t 16), []⟩, ⟨5, (some 68), none, .call (.c (.func (.func 129) #[] #[])) [.t 65, .t 66, .t 67], []⟩, ⟨6, (some 69), none, .call (.c (.func (.func 128) #[] #[])) [.t 64, .t 68], []⟩, ⟨7, (some 10), none, .mov (.t 63), []⟩, ⟨8, (some 16), none, .mov (.t 69), []⟩]))))))))) (.seq (.ops [⟨0, (some 70), none, .mov (.t 13), []⟩, ⟨1, (some 71), none, .mov (.t 9), []⟩, ⟨2, (some 72), none, .call (.c (.func (.func 125) #[] #[])) [.t 71], []⟩, ⟨3, (some 73), none, .mov (.t 10), []⟩, ⟨4, (some 74), none, .call (.c (.func (.func 125) #[] #[])) [.t 73], []⟩, ⟨5, (some 8), none, .mov (.t 70), []⟩, ⟨6, (some 9), none, .mov (.t 72), []⟩, ⟨7, (some 10), none, .mov (.t 74), []⟩, ⟨8, (some 11), none, .mov (.c (.int .i64 0)), []⟩]) .ret)))))))
attribute [irreducible] c_polys_Ring_b_Partial
theorem run_polys_Ring_b_Partial {args : List Value} {w : World} {K : Value → World → Prop} (hn : args.length ≤ 75) (h : WP Try.prog c_polys_Ring_b_Partial (endQ [.t 8, .t 9, .t 10, .t 11] K) (initT args) w) : CallV Try.prog 90 args w K :=
  call_of follows Try.func90 (by kernel_rfl) (by kernel_rfl) hn h
end Go.Proofs.Ytbaljbadlfopgaa.Fw
namespace Go.Proofs.Ytbaljbadlfopgaa.Fw
open Go Go.Fw
theorem polys_Ring_b_Partial_spec (w : World) (r s1 s2 : Value) (l1 l2 : List (El 8)) (d : Int) (hr : Ring_b w r) (h1 : Sl w s1 l1) (h2 : Sl w s2 l2) (hb1 : l1.length ≤ 70368744175616) (hb2 : l2.length ≤ 70368744175616) :
    CallV Try.prog 90 [r, s1, s2, .int .i64 d] w fun v w' => RowKit.Below w.heap.size w w' ∧
      ((l1.length ≤ 1024 ∧ l2.length ≤ 1024 ∧ 0 ≤ d ∧ ∃ sm su sv m u v', v = .tuple #[sm, su, sv, .int .i64 0] ∧ Ow w.heap.size w' sm m ∧ Ow w.heap.size w' su u ∧ Ow w.heap.size w' sv v' ∧ Eu d.toNat (tr l1) (tr l2) [1] [] [] [1] m u v') ∨
       (l1.length ≤ 1024 ∧ l2.length ≤ 1024 ∧ d < 0 ∧ v = .tuple #[.slice none 0 0, .slice none 0 0, .slice none 0 0, .int .i64 7]) ∨
       (¬ (l1.length ≤ 1024 ∧ l2.length ≤ 1024) ∧ v = .tuple #[.slice none 0 0, .slice none 0 0, .slice none 0 0, .int .i64 5])) := by
  refine run_polys_Ring_b_Partial (by simp) ?_
  simp only [c_polys_Ring_b_Partial, WS, List.getElem_cons_zero, List.getElem_cons_succ, Option.isNone_some, Option.isNone_none, List.getD_cons_zero, List.getD_cons_succ, I.at, atL, atO, atP, evp, evs, retV, ↓reduceIte, Nat.reduceEqDiff, reduceCtorEq]
  obtain ⟨e1, n1⟩ := h1.hd
  obtain ⟨e2, n2⟩ := h2.hd
  refine X_bsl (zs := [hd s1, hd s2]) (fill2 h1 h2) rfl fun ls w1 ho hB => ?_
  obtain ⟨b, mv, iv, rfl, -, -⟩ := id hr
  simp only [WS, List.getElem_cons_zero, List.getElem_cons_succ, Option.isNone_some, Option.isNone_none, List.getD_cons_zero, List.getD_cons_succ, I.at, atL, atO, atP, evp, evs, retV, ↓reduceIte, Nat.reduceEqDiff, reduceCtorEq]
  refine X_call0 ((polys_Ring_b_refuses_spec w1 _ ls _ ho.sl (by simp) (by simp [n1, n2]; omega)).mono ?_)
  rintro v w' ⟨rfl, rfl⟩
  have hiff : (∀ x ∈ [hd s1, hd s2], x.n ≤ 1024) = (l1.length ≤ 1024 ∧ l2.length ≤ 1024) := by simp [n1, n2]
  by_cases hsz : l1.length ≤ 1024 ∧ l2.length ≤ 1024
  · rw [if_pos (hiff.mpr hsz)]
    simp only [WS, List.getElem_cons_zero, List.getElem_cons_succ, Option.isNone_some, Option.isNone_none, List.getD_cons_zero, List.getD_cons_succ, I.at, atL, atO, atP, evp, evs, retV, ↓reduceIte, Nat.reduceEqDiff, reduceCtorEq, show decide ((0 : Int) = 0) = true from rfl]
    by_cases hd0 : d < 0
    · simp (maxSteps := 1000000) (disch := omega) only [WS, List.getElem_cons_zero, List.getElem_cons_succ, Option.isNone_some, Option.isNone_none, List.getD_cons_zero, List.getD_cons_succ, I.at, atL, atO, atP, evp, evs, retV, ↓reduceIte, Nat.reduceEqDiff, reduceCtorEq, AS]
      exact ⟨hB, Or.inr (Or.inl ⟨hsz.1, hsz.2, hd0⟩)⟩
    obtain ⟨D, rfl⟩ : ∃ D : Nat, d = (D : Int) := ⟨d.toNat, by omega⟩
    rw [Int.toNat_natCast]
    simp (maxSteps := 1000000) (disch := omega) only [WS, List.getElem_cons_zero, List.getElem_cons_succ, Option.isNone_some, Option.isNone_none, List.getD_cons_zero, List.getD_cons_succ, I.at, atL, atO, atP, evp, evs, retV, ↓reduceIte, Nat.reduceEqDiff, reduceCtorEq, AS]
    refine X_call0 ((polys_copied_b_spec w' s1 l1 (h1.up hB) hb1).mono ?_)
    rintro sa w2 ⟨oa, hB2⟩
    have B2 : RowKit.Below w.heap.size w w2 := hB.trans (hB2.mono hB.size)
    simp (maxSteps := 1000000) (disch := omega) only [WS, List.getElem_cons_zero, List.getElem_cons_succ, Option.isNone_some, Option.isNone_none, List.getD_cons_zero, List.getD_cons_succ, I.at, atL, atO, atP, evp, evs, retV, ↓reduceIte, Nat.reduceEqDiff, reduceCtorEq, AS]
    refine X_call0 ((polys_copied_b_spec w2 s2 l2 (h2.up B2) hb2).mono ?_)
    rintro sb w3 ⟨ob, hB3⟩
    have B3 : RowKit.Below w.heap.size w w3 := B2.trans (hB3.mono B2.size)
    have oa := (oa.up hB3).mono hB.size
    have ob := ob.mono B2.size
    simp (maxSteps := 1000000) (disch := omega) only [WS, List.getElem_cons_zero, List.getElem_cons_succ, Option.isNone_some, Option.isNone_none, List.getD_cons_zero, List.getD_cons_succ, I.at, atL, atO, atP, evp, evs, retV, ↓reduceIte, Nat.reduceEqDiff, reduceCtorEq, AS]
    refine X_bsl (zs := [(1 : El 8)]) (by rfl) rfl fun su w4 ou hB4 => ?_
    have oa := oa.up hB4
    have ob := ob.up hB4
    have B4 := B3.trans (hB4.mono B3.size)
    have ou := ou.mono B3.size
    simp (maxSteps := 1000000) (disch := omega) only [WS, List.getElem_cons_zero, List.getElem_cons_succ, Option.isNone_some, Option.isNone_none, List.getD_cons_zero, List.getD_cons_succ, I.at, atL, atO, atP, evp, evs, retV, ↓reduceIte, Nat.reduceEqDiff, reduceCtorEq, AS]
    refine X_bsl (zs := [(1 : El 8)]) (by rfl) rfl fun st w5 ot hB5 => ?_
    have oa := oa.up hB5
    have ob := ob.up hB5
    have ou := ou.up hB5
    have B5 := B4.trans (hB5.mono B4.size)
    have ot := ot.mono B4.size
    clear hB hB2 hB3 hB4 hB5 B2 B3 B4
    simp (maxSteps := 1000000) (disch := omega) only [WS, List.getElem_cons_zero, List.getElem_cons_succ, Option.isNone_some, Option.isNone_none, List.getD_cons_zero, List.getD_cons_succ, I.at, atL, atO, atP, evp, evs, retV, ↓reduceIte, Nat.reduceEqDiff, reduceCtorEq, AS]
    have q1 := tln_le l1
    have q2 := tln_le l2
    refine loop_of (fun t w' => t 0 = .pointer (some ⟨b, 0, none⟩) ∧ t 3 = .int .i64 (D : Int) ∧ RowKit.Below w.heap.size w w' ∧ ∃ (sa sb su sv ss st : Value) (la lb lu lv ls lt : List (El 8)), t 13 = sa ∧ t 14 = sb ∧ t 9 = su ∧ t 10 = sv ∧ t 15 = ss ∧ t 16 = st ∧
        Ow w.heap.size w' sa la ∧ Ow w.heap.size w' sb lb ∧ Ow w.heap.size w' su lu ∧ Ow w.heap.size w' sv lv ∧ Ow w.heap.size w' ss ls ∧ Ow w.heap.size w' st lt ∧ tr la = la ∧ tr lb = lb ∧ tr lu = lu ∧ tr lv = lv ∧ tr ls = ls ∧ tr lt = lt ∧ la.length ≤ 1024 ∧ lb.length ≤ 1024 ∧
        lu.length + 1025 * lb.length ≤ 1101024 ∧ ls.length + 1025 * lb.length ≤ 1100000 ∧ lv.length + 1025 * lb.length ≤ 1101024 ∧ lt.length + 1025 * lb.length ≤ 1100000 ∧
        ∀ x y z, Eu D la lb lu lv ls lt x y z → Eu D (tr l1) (tr l2) [1] [] [] [1] x y z)
      (fun t w' => match t 14 with | .slice _ n _ => n | _ => 0) ⟨by simp only [WS, List.getElem_cons_zero, List.getElem_cons_succ, Option.isNone_some, Option.isNone_none, List.getD_cons_zero, List.getD_cons_succ, I.at, atL, atO, atP, evp, evs, retV, ↓reduceIte, Nat.reduceEqDiff, reduceCtorEq], by simp only [WS, List.getElem_cons_zero, List.getElem_cons_succ, Option.isNone_some, Option.isNone_none, List.getD_cons_zero, List.getD_cons_succ, I.at, atL, atO, atP, evp, evs, retV, ↓reduceIte, Nat.reduceEqDiff, reduceCtorEq], B5, sa, sb, su, _, _, st, tr l1, tr l2, [1], [], [], [1], by simp only [WS, List.getElem_cons_zero, List.getElem_cons_succ, Option.isNone_some, Option.isNone_none, List.getD_cons_zero, List.getD_cons_succ, I.at, atL, atO, atP, evp, evs, retV, ↓reduceIte, Nat.reduceEqDiff, reduceCtorEq], by simp only [WS, List.getElem_cons_zero, List.getElem_cons_succ, Option.isNone_some, Option.isNone_none, List.getD_cons_zero, List.getD_cons_succ, I.at, atL, atO, atP, evp, evs, retV, ↓reduceIte, Nat.reduceEqDiff, reduceCtorEq], by simp only [WS, List.getElem_cons_zero, List.getElem_cons_succ, Option.isNone_some, Option.isNone_none, List.getD_cons_zero, List.getD_cons_succ, I.at, atL, atO, atP, evp, evs, retV, ↓reduceIte, Nat.reduceEqDiff, reduceCtorEq], by simp only [WS, List.getElem_cons_zero, List.getElem_cons_succ, Option.isNone_some, Option.isNone_none, List.getD_cons_zero, List.getD_cons_succ, I.at, atL, atO, atP, evp, evs, retV, ↓reduceIte, Nat.reduceEqDiff, reduceCtorEq], by simp only [WS, List.getElem_cons_zero, List.getElem_cons_succ, Option.isNone_some, Option.isNone_none, List.getD_cons_zero, List.getD_cons_succ, I.at, atL, atO, atP, evp, evs, retV, ↓reduceIte, Nat.reduceEqDiff, reduceCtorEq], by simp only [WS, List.getElem_cons_zero, List.getElem_cons_succ, Option.isNone_some, Option.isNone_none, List.getD_cons_zero, List.getD_cons_succ, I.at, atL, atO, atP, evp, evs, retV, ↓reduceIte, Nat.reduceEqDiff, reduceCtorEq], oa, ob, ou, Ow.nil _ _, Ow.nil _ _, ot, tr_tr l1, tr_tr l2, tr_one, tr_nil, tr_nil, tr_one,
        by rw [tr_len]; omega, by rw [tr_len]; omega, by rw [tr_len]; simp; omega, by rw [tr_len]; simp; omega, by rw [tr_len]; simp; omega, by rw [tr_len]; simp; omega, fun x y z h => h⟩ ?_
    clear oa ob ou ot B5
    rintro t w6 ⟨t0, t3, B6, sa, sb, su, sv, ss, st, la, lb, lu, lv, ls, lt, t13, t14, t9, t10, t15, t16, oa, ob, ou, ov, os, ot, ta, tb, tu, tv, ts, tt, na, nb, nu, ns, nv, nt, hE⟩
    have wl : IntKind.i64.wrap ((la.length : Int) - 1) = (la.length : Int) - 1 := wrap_id (by omega) (by omega)
    by_cases hda : D < la.length
    · by_cases hz : lb.length = 0
      · obtain rfl : lb = [] := List.eq_nil_of_length_eq_zero hz
        simp (maxSteps := 1000000) (disch := omega) only [WS, List.getElem_cons_zero, List.getElem_cons_succ, Option.isNone_some, Option.isNone_none, List.getD_cons_zero, List.getD_cons_succ, I.at, atL, atO, atP, evp, evs, retV, ↓reduceIte, Nat.reduceEqDiff, reduceCtorEq, AS, t0, t3, t13, t14, t9, t10, t15, t16, oa.sl.Xlen, ob.sl.Xlen, wl]
        refine X_call0 ((polys_copied_b_spec w6 ss ls os.sl (by omega)).mono ?_)
        rintro s1' w7 ⟨o1, hB7⟩
        have ot := ot.up hB7
        have B7 := B6.trans (hB7.mono B6.size)
        have o1 := o1.mono B6.size
        simp (maxSteps := 1000000) (disch := omega) only [WS, List.getElem_cons_zero, List.getElem_cons_succ, Option.isNone_some, Option.isNone_none, List.getD_cons_zero, List.getD_cons_succ, I.at, atL, atO, atP, evp, evs, retV, ↓reduceIte, Nat.reduceEqDiff, reduceCtorEq, AS, t0, t3, t13, t14, t9, t10, t15, t16]
        refine X_call0 ((polys_copied_b_spec w7 st lt ot.sl (by omega)).mono ?_)
        rintro s2' w8 ⟨o2, hB8⟩
        have o1 := o1.up hB8
        have B8 := B7.trans (hB8.mono B7.size)
        have o2 := o2.mono B7.size
        simp (maxSteps := 1000000) (disch := omega) only [WS, List.getElem_cons_zero, List.getElem_cons_succ, Option.isNone_some, Option.isNone_none, List.getD_cons_zero, List.getD_cons_succ, I.at, atL, atO, atP, evp, evs, retV, ↓reduceIte, Nat.reduceEqDiff, reduceCtorEq, AS]
        rw [ts] at o1
        rw [tt] at o2
        exact ⟨B8, Or.inl ⟨hsz.1, hsz.2, by omega, _, s1', s2', [], ls, lt, rfl, Ow.nil _ _, o1, o2, hE _ _ _ (Eu.zero hda)⟩⟩
      · have hlen := len_tr tb
        have hlna := len_tr ta
        simp (maxSteps := 1000000) (disch := omega) only [WS, List.getElem_cons_zero, List.getElem_cons_succ, Option.isNone_some, Option.isNone_none, List.getD_cons_zero, List.getD_cons_succ, I.at, atL, atO, atP, evp, evs, retV, ↓reduceIte, Nat.reduceEqDiff, reduceCtorEq, AS, t0, t3, t13, t14, t9, t10, t15, t16, oa.sl.Xlen, ob.sl.Xlen, wl]
        refine X_call0 ((polys_Ring_b_divided_spec w6 _ sa sb la lb (hr.up B6) oa.sl ob.sl (by omega) (by omega) (by omega)).mono ?_)
        rintro _ w7 ⟨sq, sm, qq, m, rfl, oq, om, tq, tm, hco, hml, hql, hB⟩
        have oq := oq.mono B6.size
        have om := om.mono B6.size
        have ob := ob.up hB
        have ou := ou.up hB
        have ov := ov.up hB
        have os := os.up hB
        have ot := ot.up hB
        have B6 := B6.trans (hB.mono B6.size)
        clear hB
        simp (maxSteps := 1000000) (disch := omega) only [WS, List.getElem_cons_zero, List.getElem_cons_succ, Option.isNone_some, Option.isNone_none, List.getD_cons_zero, List.getD_cons_succ, I.at, atL, atO, atP, evp, evs, retV, ↓reduceIte, Nat.reduceEqDiff, reduceCtorEq, AS, t0, t3, t13, t14, t9, t10, t15, t16]
        refine X_call0 ((polys_Ring_b_product_spec w7 _ sq ss qq ls (hr.up B6) oq.sl os.sl (by omega) (by omega)).mono ?_)
        rintro sp w8 ⟨lp, op, tp, cp, np, hB⟩
        have op := op.mono B6.size
        have ob := ob.up hB
        have ou := ou.up hB
        have ov := ov.up hB
        have os := os.up hB
        have ot := ot.up hB
        have oq := oq.up hB
        have om := om.up hB
        have B6 := B6.trans (hB.mono B6.size)
        clear hB
        simp (maxSteps := 1000000) (disch := omega) only [WS, List.getElem_cons_zero, List.getElem_cons_succ, Option.isNone_some, Option.isNone_none, List.getD_cons_zero, List.getD_cons_succ, I.at, atL, atO, atP, evp, evs, retV, ↓reduceIte, Nat.reduceEqDiff, reduceCtorEq, AS, t0, t3, t13, t14, t9, t10, t15, t16]
        refine X_call0 ((polys_added_b_spec w8 su sp lu lp ou.sl op.sl (by omega) (by omega)).mono ?_)
        rintro su' w9 ⟨lu', ou', tu', cu', nu', hB⟩
        have ou' := ou'.mono B6.size
        have ob := ob.up hB
        have ov := ov.up hB
        have os := os.up hB
        have ot := ot.up hB
        have oq := oq.up hB
        have om := om.up hB
        have B6 := B6.trans (hB.mono B6.size)
        clear hB
        simp (maxSteps := 1000000) (disch := omega) only [WS, List.getElem_cons_zero, List.getElem_cons_succ, Option.isNone_some, Option.isNone_none, List.getD_cons_zero, List.getD_cons_succ, I.at, atL, atO, atP, evp, evs, retV, ↓reduceIte, Nat.reduceEqDiff, reduceCtorEq, AS, t0, t3, t13, t14, t9, t10, t15, t16]
        refine X_call0 ((polys_Ring_b_product_spec w9 _ sq st qq lt (hr.up B6) oq.sl ot.sl (by omega) (by omega)).mono ?_)
        rintro sp2 w10 ⟨lp2, op2, tp2, cp2, np2, hB⟩
        have op2 := op2.mono B6.size
        have ob := ob.up hB
        have ov := ov.up hB
        have os := os.up hB
        have ot := ot.up hB
        have om := om.up hB
        have ou' := ou'.up hB
        have B6 := B6.trans (hB.mono B6.size)
        clear hB
        simp (maxSteps := 1000000) (disch := omega) only [WS, List.getElem_cons_zero, List.getElem_cons_succ, Option.isNone_some, Option.isNone_none, List.getD_cons_zero, List.getD_cons_succ, I.at, atL, atO, atP, evp, evs, retV, ↓reduceIte, Nat.reduceEqDiff, reduceCtorEq, AS, t0, t3, t13, t14, t9, t10, t15, t16]
        refine X_call0 ((polys_added_b_spec w10 sv sp2 lv lp2 ov.sl op2.sl (by omega) (by omega)).mono ?_)
        rintro sv' w11 ⟨lv', ov', tv', cv', nv', hB⟩
        have ov' := ov'.mono B6.size
        have ob := ob.up hB
        have os := os.up hB
        have ot := ot.up hB
        have om := om.up hB
        have ou' := ou'.up hB
        have B6 := B6.trans (hB.mono B6.size)
        clear hB
        simp (maxSteps := 1000000) (disch := omega) only [WS, List.getElem_cons_zero, List.getElem_cons_succ, Option.isNone_some, Option.isNone_none, List.getD_cons_zero, List.getD_cons_succ, I.at, atL, atO, atP, evp, evs, retV, ↓reduceIte, Nat.reduceEqDiff, reduceCtorEq, AS, t0, t3, t13, t14, t9, t10, t15, t16]
        refine ⟨⟨B6, sb, sm, ss, st, su', sv', lb, m, ls, lt, lu', lv', rfl, rfl, rfl, rfl, rfl, rfl, ob, om, os, ot, ou', ov', tb, tm, ts, tt, tu', tv', nb, by omega, by omega, by omega, by omega, by omega, fun x y z h => hE _ _ _ ?_⟩, ?_⟩
        · exact Eu.step hda (by rintro rfl; simp at hz) tq tm hco (by omega) tu' (by rw [cu', cp]) tv' (by rw [cv', cp2]) h
        · obtain ⟨a1, c1, e3, -, -⟩ := om.sl.sh
          obtain ⟨a2, c2, e4, -, -⟩ := ob.sl.sh
          rw [e3, e4]
          show m.length < lb.length
          omega
    · simp (maxSteps := 1000000) (disch := omega) only [WS, List.getElem_cons_zero, List.getElem_cons_succ, Option.isNone_some, Option.isNone_none, List.getD_cons_zero, List.getD_cons_succ, I.at, atL, atO, atP, evp, evs, retV, ↓reduceIte, Nat.reduceEqDiff, reduceCtorEq, AS, t0, t3, t13, t14, t9, t10, t15, t16, oa.sl.Xlen, wl]
      refine X_call0 ((polys_copied_b_spec w6 su lu ou.sl (by omega)).mono ?_)
      rintro s1' w7 ⟨o1, hB7⟩
      have oa := oa.up hB7
      have ov := ov.up hB7
      have B7 := B6.trans (hB7.mono B6.size)
      have o1 := o1.mono B6.size
      simp (maxSteps := 1000000) (disch := omega) only [WS, List.getElem_cons_zero, List.getElem_cons_succ, Option.isNone_some, Option.isNone_none, List.getD_cons_zero, List.getD_cons_succ, I.at, atL, atO, atP, evp, evs, retV, ↓reduceIte, Nat.reduceEqDiff, reduceCtorEq, AS, t0, t3, t13, t14, t9, t10, t15, t16]
      refine X_call0 ((polys_copied_b_spec w7 sv lv ov.sl (by omega)).mono ?_)
      rintro s2' w8 ⟨o2, hB8⟩
      have o1 := o1.up hB8
      have oa := oa.up hB8
      have B8 := B7.trans (hB8.mono B7.size)
      have o2 := o2.mono B7.size
      simp (maxSteps := 1000000) (disch := omega) only [WS, List.getElem_cons_zero, List.getElem_cons_succ, Option.isNone_some, Option.isNone_none, List.getD_cons_zero, List.getD_cons_succ, I.at, atL, atO, atP, evp, evs, retV, ↓reduceIte, Nat.reduceEqDiff, reduceCtorEq, AS, t0, t3, t13, t14, t9, t10, t15, t16]
      rw [tu] at o1
      rw [tv] at o2
      exact ⟨B8, Or.inl ⟨hsz.1, hsz.2, by omega, sa, s1', s2', la, lu, lv, rfl, oa, o1, o2, hE _ _ _ (Eu.stop (by omega))⟩⟩
  · rw [if_neg (fun e => hsz (hiff.mp e))]
    simp only [WS, List.getElem_cons_zero, List.getElem_cons_succ, Option.isNone_some, Option.isNone_none, List.getD_cons_zero, List.getD_cons_succ, I.at, atL, atO, atP, evp, evs, retV, ↓reduceIte, Nat.reduceEqDiff, reduceCtorEq, show decide ((5 : Int) = 0) = false from rfl]
    exact ⟨hB, Or.inr (Or.inr hsz)⟩
end Go.Proofs.Ytbaljbadlfopgaa.Fw

/- Lagrange's form: the product of all X + x but one; two interpolations of the same values are one. -/
set_option linter.unusedVariables false
set_option linter.unusedSimpArgs false
namespace Go.Fw
open Go
section
variable {n : Nat} [F : Fd n]
end
end Go.Fw

/- The decoder: of values that are those of a short polynomial at all but few points, Euclid's remainder divided by its factor is that polynomial. -/
set_option linter.unusedVariables false
set_option linter.unusedSimpArgs false
namespace Go.Fw
open Go
section
variable {n : Nat} [F : Fd n]
/-- The places at which the polynomial's values are not these. -/
def offs (g : List (El n)) (X Y : Nat → El n) (N : Nat) : List Nat := (List.range N).filter fun j => !decide (evl g (X j) = Y j)
theorem offs_mem {g : List (El n)} {X Y : Nat → El n} {N j : Nat} : j ∈ offs g X Y N ↔ j < N ∧ evl g (X j) ≠ Y j := by
  unfold offs
  rw [List.mem_filter, List.mem_range]
  simp
theorem evn_more2 {f : Ps n} {d e : Nat} (x : El n) (hd : Dg f d) (h : d ≤ e) : evn f x e = evn f x d := evn_eq (hd.mono h) hd
theorem mul_eq_zero' {w p : List (El n)} (hw : tln w ≠ 0) (h : co w * co p = 0) : co p = 0 := by
  by_cases hp : tln p = 0
  · exact co_zero_of_tln hp
  · exfalso
    have h1 := tln_mul (p := ([] : List (El n))) (by rw [h, co_nil]) hw hp
    simp [tln] at h1
    omega
theorem vps_tln (l : List (El n)) {w : List (El n)} (h : co w = vps l) : tln w = l.length + 1 := tln_of (by rw [h]; exact vps_dg l) (Or.inr (by rw [h, Nat.add_sub_cancel, vps_top]; exact El.one_ne))
theorem gao {N k d : Nat} {X Y : Nat → El n} (hX : ∀ a b, a < N → b < N → X a = X b → a = b) {A f m u v g : List (El n)} (hA : co A = vps ((List.range N).map X)) (hf : Dg (co f) N) (hfv : ∀ j, j < N → evn (co f) (X j) N = Y j)
    (h : Eu d (tr A) (tr f) [1] [] [] [1] m u v) (hk : k < N) (hd : d = (N + k + 1) / 2) (hg : Dg (co g) k) (hn : (offs g X Y N).length ≤ (N - k) / 2) : co m = co v * co g ∧ v ≠ [] := by
  have P := h.whole
  have tA : tln A = N + 1 := by rw [vps_tln _ hA]; simp
  have tf : tln f ≤ N := by
    have := len_le (a := tr f) (tr_tr f) (k := N) (by rw [tr_co]; exact hf)
    rwa [tr_len] at this
  obtain ⟨-, -, -, hz⟩ := h.lens
  have hvl : v.length + d ≤ N + 1 := by rw [← tA]; exact hz (by omega) (by omega)
  have hml := P.lm
  generalize he : (offs g X Y N).length = e at hn
  have dA : Dg (co A) (N + 1) := by rw [← tA]; exact tln_dg A
  have zA : ∀ j, j < N → evn (co A) (X j) (N + 1) = 0 := fun j hj => by
    have h1 := (ev_vps_zero (X j) ((List.range N).map X)).2 (List.mem_map.2 ⟨j, List.mem_range.2 hj, rfl⟩)
    rw [List.length_map, List.length_range] at h1
    rw [hA]; exact h1
  -- m at the points
  have hm : ∀ j, j < N → evn (co m) (X j) m.length = evn (co v) (X j) v.length * Y j := fun j hj => by
    have dv : Dg (co v * co f) (v.length + N) := ((co_dg v).mul hf).mono (by omega)
    have du : Dg (co u * co A) (u.length + (N + 1)) := ((co_dg u).mul dA).mono (by omega)
    obtain ⟨M, hM⟩ : ∃ M, M = m.length + u.length + v.length + N + N + 1 := ⟨_, rfl⟩
    have h1 : evn (co m) (X j) M = evn (co u * co A + co v * co f) (X j) M := by rw [P.eq]
    rw [evn_add, evn_more2 _ (co_dg m) (by omega), evn_more2 _ du (by omega), evn_more2 _ dv (by omega), evn_mul _ (co_dg u) dA, evn_mul _ (co_dg v) hf, zA j hj, El.mul_zero, El.zero_add, hfv j hj] at h1
    exact h1
  have hvne : v ≠ [] := by
    rintro rfl
    have e1 : co m = co u * co A := by rw [P.eq, co_nil, Ps.zero_mul, Ps.add_zero]
    have e2 : tln u = 0 := by
      by_cases hu : tln u = 0
      · exact hu
      · exfalso
        have h1 := tln_mul e1 hu (by omega)
        have := tln_le m
        omega
    obtain ⟨p, q, -, -, h1⟩ := P.cop
    rw [co_zero_of_tln e2, co_nil, Ps.mul_zero, Ps.mul_zero, Ps.add_zero] at h1
    exact El.one_ne (congrArg (fun f : Ps n => f.c 0) h1).symm
  refine ⟨?_, hvne⟩
  generalize hW : vps ((offs g X Y N).map X) = W
  have lW : ((offs g X Y N).map X).length = e := by rw [List.length_map, he]
  have dW : Dg W (e + 1) := by rw [← hW, ← lW]; exact vps_dg _
  have dvg : Dg (co v * co g) (v.length + k) := ((co_dg v).mul hg).mono (by omega)
  have dvg2 : Dg (co v * co g) (N - e) := ((co_dg v).mul hg).mono (by omega)
  have dF : Dg (co m + co v * co g) (N - e) := ((co_dg m).mono (by omega)).add dvg2
  have dP : Dg (W * (co m + co v * co g)) N := (dW.mul dF).mono (by omega)
  have hP : W * (co m + co v * co g) = 0 := zero_of X 0 N dP (fun a b ha hb e => hX a b ha hb (by simpa using e)) fun j hj => by
    rw [Nat.zero_add]
    rw [← evn_more2 (X j) dP (show N ≤ e + 1 + (N - e) by omega), evn_mul _ dW dF]
    by_cases hj2 : evl g (X j) = Y j
    · have h2 : evn (co m + co v * co g) (X j) (N - e) = 0 := by
        rw [evn_add, evn_more2 _ (co_dg m) (by omega), hm j hj, ← evn_more2 (X j) dvg2 (show N - e ≤ N + N + 1 + v.length + k by omega), evn_more2 _ dvg (by omega), evn_mul _ (co_dg v) hg]
        rw [evl_co, ← evn_eq (e := g.length) hg (co_dg g)] at hj2
        rw [hj2, El.add_self]
      rw [h2, El.mul_zero]
    · have h2 := (ev_vps_zero (X j) ((offs g X Y N).map X)).2 (List.mem_map.2 ⟨j, offs_mem.2 ⟨hj, hj2⟩, rfl⟩)
      rw [lW, hW] at h2
      rw [h2, El.zero_mul]
  have hWl : co (ofc (e + 1) W) = W := ofc_co dW
  have hFl : co (ofc (N - e) (co m + co v * co g)) = co m + co v * co g := ofc_co dF
  have h3 := mul_eq_zero' (w := ofc (e + 1) W) (p := ofc (N - e) (co m + co v * co g)) (by rw [vps_tln ((offs g X Y N).map X) (by rw [hWl, hW])]; omega) (by rw [hWl, hFl, hP])
  rw [hFl] at h3
  exact Ps.eq_of_add h3
/-- What divides with no remainder. -/
theorem gao_div {m v g q rest : List (El n)} (hm : co m = co v * co g) (hg : tr g = g) (tq : tr q = q) (tm : tr rest = rest) (he : co m = co q * co v + co rest) (hl : rest.length < tln v) : q = g ∧ rest = [] :=
  div_uniq tq tm hg tr_nil he (by rw [hm, co_nil, Ps.add_zero, Ps.mul_comm]) hl (by simp; omega)
theorem filter3 {α : Type} (p q : α → Bool) : ∀ l : List α, l.length ≤ (l.filter fun x => p x && q x).length + (l.filter fun x => !p x).length + (l.filter fun x => !q x).length
  | [] => by simp
  | a :: l => by
    have ih := filter3 p q l
    simp only [List.filter_cons]
    cases p a <;> cases q a <;> simp <;> omega
/-- At most one short polynomial is near. -/
theorem near_uniq {N k : Nat} {X Y : Nat → El n} (hX : ∀ a b, a < N → b < N → X a = X b → a = b) {g g' : List (El n)} (hk : k ≤ N) (tg : tr g = g) (tg' : tr g' = g') (hg : g.length ≤ k) (hg' : g'.length ≤ k)
    (h : (offs g X Y N).length + (offs g' X Y N).length + k ≤ N) : g = g' := by
  obtain ⟨L, hL⟩ : ∃ L, L = (List.range N).filter fun j => decide (evl g (X j) = Y j) && decide (evl g' (X j) = Y j) := ⟨_, rfl⟩
  have hmem : ∀ j, j ∈ L → j < N ∧ evl g (X j) = Y j ∧ evl g' (X j) = Y j := fun j hj => by
    rw [hL, List.mem_filter, List.mem_range] at hj
    simpa using hj
  have hlen : k ≤ L.length := by
    have h1 := filter3 (fun j => decide (evl g (X j) = Y j)) (fun j => decide (evl g' (X j) = Y j)) (List.range N)
    rw [List.length_range, ← hL] at h1
    unfold offs at h
    omega
  have hnd : (L.map X).Nodup := by
    have h0 : L.Pairwise (· < ·) := by rw [hL]; exact List.Pairwise.filter _ List.pairwise_lt_range
    unfold List.Nodup
    rw [List.pairwise_map]
    refine List.Pairwise.imp_of_mem (R := (· < ·)) (fun {a b} ha hb hab e => ?_) h0
    have := hX a b (hmem a ha).1 (hmem b hb).1 e
    omega
  have dS : Dg (co g + co g') k := ((co_dg g).mono hg).add ((co_dg g').mono hg')
  have h4 : co (ofc k (co g + co g')) = co g + co g' := ofc_co dS
  have h5 := roots_zero (L.map X) (ofc k (co g + co g')) hnd (by rw [ofc_len, List.length_map]; exact hlen) fun z hz => by
    obtain ⟨j, hj, rfl⟩ := List.mem_map.1 hz
    obtain ⟨-, h1, h2⟩ := hmem j hj
    rw [evl_co, h4, ofc_len, evn_add, evn_more2 _ (co_dg g) hg, evn_more2 _ (co_dg g') hg', ← evl_co, ← evl_co, h1, h2, El.add_self]
  rw [h4] at h5
  exact tr_inj tg tg' (Ps.eq_of_add h5)
end
end Go.Fw
