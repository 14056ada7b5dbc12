import Derived.Test.YtbaljbadlfopgaaProg
import Derived.Test.YtbaljbadlfopgaaFwTN
import Derived.Test.YtbaljbadlfopgaaSMdbN
import Derived.Test.YtbaljbadlfopgaaGfEN
set_option linter.all false
set_option linter.unusedVariables false
set_option linter.unusedSimpArgs false
set_option maxRecDepth 100000
set_option maxHeartbeats 1000000
namespace Go.Proofs.Ytbaljbadlfopgaa.Fw
open Go Go.Fw Go.Proofs
attribute [local irreducible] stepI
def c_polys_Ring_b_Partial : C := .seq (.ops [⟨0, (some 8), none, .mov (.c (.slice none 0 0)), []⟩, ⟨1, (some 9), none, .mov (.c (.slice none 0 0)), []⟩, ⟨2, (some 10), none, .mov (.c (.slice none 0 0)), []⟩, ⟨3, (some 11), none, .mov (.c (.int .i64 0)), []⟩]) (.seq (.seq (.ops [⟨0, (some 19), none, .mov (.t 0), []⟩, ⟨1, (some 20), none, .mov (.t 1), []⟩, ⟨2, (some 21), none, .mov (.t 2), []⟩, ⟨3, (some 22), none, .bsl 25 2 [.slice none 0 0] [(0, (1, .t 20)), (1, (1, .t 21))], []⟩, ⟨4, (some 23), none, .call (.c (.func (.func 87) #[] #[])) [.t 19, .t 22], []⟩, ⟨5, (some 12), none, .mov (.t 23), []⟩]) (.seq (.ops [⟨0, (some 24), none, .mov (.t 12), []⟩, ⟨1, (some 25), none, .bin .neq (.t 24) (.c (.int .i64 0)), []⟩]) (.ite (.t 25) (.seq (.ops [⟨0, (some 26), none, .mov (.t 12), []⟩, ⟨1, (some 8), none, .mov (.c (.slice none 0 0)), []⟩, ⟨2, (some 9), none, .mov (.c (.slice none 0 0)), []⟩, ⟨3, (some 10), none, .mov (.c (.slice none 0 0)), []⟩, ⟨4, (some 11), none, .mov (.t 26), []⟩]) .ret) .skip))) (.seq (.seq (.ops [⟨0, (some 27), none, .mov (.t 3), []⟩, ⟨1, (some 28), none, .bin .lss (.t 27) (.c (.int .i64 0)), []⟩]) (.ite (.t 28) (.seq (.ops [⟨0, (some 8), none, .mov (.c (.slice none 0 0)), []⟩, ⟨1, (some 9), none, .mov (.c (.slice none 0 0)), []⟩, ⟨2, (some 10), none, .mov (.c (.slice none 0 0)), []⟩, ⟨3, (some 11), none, .mov (.c (.int .i64 7)), []⟩]) .ret) .skip)) (.seq (.ops [⟨0, (some 29), none, .mov (.t 1), []⟩, ⟨1, (some 30), none, .call (.c (.func (.func 125) #[] #[])) [.t 29], []⟩, ⟨2, (some 31), none, .mov (.t 2), []⟩, ⟨3, (some 32), none, .call (.c (.func (.func 125) #[] #[])) [.t 31], []⟩, ⟨4, (some 13), none, .mov (.t 30), []⟩, ⟨5, (some 14), none, .mov (.t 32), []⟩]) (.seq (.ops [⟨0, (some 33), none, .bsl 5 1 [.int .u8 0] [(0, (1, .c (.int .u8 1)))], []⟩, ⟨1, (some 9), none, .mov (.t 33), []⟩, ⟨2, (some 10), none, .mov (.c (.slice none 0 0)), []⟩]) (.seq (.ops [⟨0, (some 34), none, .bsl 5 1 [.int .u8 0] [(0, (1, .c (.int .u8 1)))], []⟩, ⟨1, (some 15), none, .mov (.c (.slice none 0 0)), []⟩, ⟨2, (some 16), none, .mov (.t 34), []⟩]) (.seq (.block 0 (.loop (.seq (.seq (.ops [⟨0, (some 35), none, .mov (.t 13), []⟩, ⟨1, (some 36), none, .len (.t 35), []⟩, ⟨2, (some 37), none, .bin .sub (.t 36) (.c (.int .i64 1)), []⟩, ⟨3, (some 38), none, .mov (.t 3), []⟩, ⟨4, (some 39), none, .bin .geq (.t 37) (.t 38), []⟩]) (.ite (.t 39) .skip (.exit 0))) (.block 1 (.seq (.seq (.ops [⟨0, (some 40), none, .mov (.t 14), []⟩, ⟨1, (some 41), none, .len (.t 40), []⟩, ⟨2, (some 42), none, .bin .eql (.t 41) (.c (.int .i64 0)), []⟩]) (.ite (.t 42) (.seq (.ops [⟨0, (some 43), none, .mov (.t 15), []⟩, ⟨1, (some 44), none, .call (.c (.func (.func 125) #[] #[])) [.t 43], []⟩, ⟨2, (some 45), none, .mov (.t 16), []⟩, ⟨3, (some 46), none, .call (.c (.func (.func 125) #[] #[])) [.t 45], []⟩, ⟨4, (some 8), none, .mov (.c (.slice none 0 0)), []⟩, ⟨5, (some 9), none, .mov (.t 44), []⟩, ⟨6, (some 10), none, .mov (.t 46), []⟩, ⟨7, (some 11), none, .mov (.c (.int .i64 0)), []⟩]) .ret) .skip)) (.seq (.ops [⟨0, (some 48), none, .mov (.t 0), []⟩, ⟨1, (some 49), none, .mov (.t 13), []⟩, ⟨2, (some 50), none, .mov (.t 14), []⟩, ⟨3, (some 51), none, .call (.c (.func (.func 127) #[] #[])) [.t 48, .t 49, .t 50], []⟩, ⟨4, (some 47), none, .mov (.t 51), []⟩, ⟨5, (some 52), none, .ext (.t 47) 0, []⟩, ⟨6, (some 53), none, .ext (.t 47) 1, []⟩, ⟨7, (some 17), none, .mov (.t 52), []⟩, ⟨8, (some 18), none, .mov (.t 53), []⟩]) (.seq (.ops [⟨0, (some 54), none, .mov (.t 14), []⟩, ⟨1, (some 55), none, .mov (.t 18), []⟩, ⟨2, (some 13), none, .mov (.t 54), []⟩, ⟨3, (some 14), none, .mov (.t 55), []⟩]) (.seq (.ops [⟨0, (some 56), none, .mov (.t 15), []⟩, ⟨1, (some 57), none, .mov (.t 9), []⟩, ⟨2, (some 58), none, .mov (.t 0), []⟩, ⟨3, (some 59), none, .mov (.t 17), []⟩, ⟨4, (some 60), none, .mov (.t 15), []⟩, ⟨5, (some 61), none, .call (.c (.func (.func 129) #[] #[])) [.t 58, .t 59, .t 60], []⟩, ⟨6, (some 62), none, .call (.c (.func (.func 128) #[] #[])) [.t 57, .t 61], []⟩, ⟨7, (some 9), none, .mov (.t 56), []⟩, ⟨8, (some 15), none, .mov (.t 62), []⟩]) (.ops [⟨0, (some 63), none, .mov (.t 16), []⟩, ⟨1, (some 64), none, .mov (.t 10), []⟩, ⟨2, (some 65), none, .mov (.t 0), []⟩, ⟨3, (some 66), none, .mov (.t 17), []⟩, ⟨4, (some 67), none, .mov (.t 16), []⟩, ⟨5, (some 68), none, .call (.c (.func (.func 129) #[] #[])) [.t 65, .t 66, .t 67], []⟩, ⟨6, (some 69), none, .call (.c (.func (.func 128) #[] #[])) [.t 64, .t 68], []⟩, ⟨7, (some 10), none, .mov (.t 63), []⟩, ⟨8, (some 16), none, .mov (.t 69), []⟩]))))))))) (.seq (.ops [⟨0, (some 70), none, .mov (.t 13), []⟩, ⟨1, (some 71), none, .mov (.t 9), []⟩, ⟨2, (some 72), none, .call (.c (.func (.func 125) #[] #[])) [.t 71], []⟩, ⟨3, (some 73), none, .mov (.t 10), []⟩, ⟨4, (some 74), none, .call (.c (.func (.func 125) #[] #[])) [.t 73], []⟩, ⟨5, (some 8), none, .mov (.t 70), []⟩, ⟨6, (some 9), none, .mov (.t 72), []⟩, ⟨7, (some 10), none, .mov (.t 74), []⟩, ⟨8, (some 11), none, .mov (.c (.int .i64 0)), []⟩]) .ret)))))))
attribute [irreducible] c_polys_Ring_b_Partial
theorem run_polys_Ring_b_Partial {args : List Value} {w : World} {K : Value → World → Prop} (hn : args.length ≤ 75) (h : WP Try.prog c_polys_Ring_b_Partial (endQ [.t 8, .t 9, .t 10, .t 11] K) (initT args) w) : CallV Try.prog 90 args w K :=
  call_of follows Try.func90 (by kernel_rfl) (by kernel_rfl) hn h
end Go.Proofs.Ytbaljbadlfopgaa.Fw
namespace Go.Proofs.Ytbaljbadlfopgaa.Fw
open Go Go.Fw
theorem polys_Ring_b_Partial_spec (w : World) (r s1 s2 : Value) (l1 l2 : List (El 8)) (d : Int) (hr : Ring_b w r) (h1 : Sl w s1 l1) (h2 : Sl w s2 l2) (hb1 : l1.length ≤ 70368744175616) (hb2 : l2.length ≤ 70368744175616) :
    CallV Try.prog 90 [r, s1, s2, .int .i64 d] w fun v w' => RowKit.Below w.heap.size w w' ∧
      ((l1.length ≤ 1024 ∧ l2.length ≤ 1024 ∧ 0 ≤ d ∧ ∃ sm su sv m u v', v = .tuple #[sm, su, sv, .int .i64 0] ∧ Ow w.heap.size w' sm m ∧ Ow w.heap.size w' su u ∧ Ow w.heap.size w' sv v' ∧ Eu d.toNat (tr l1) (tr l2) [1] [] [] [1] m u v') ∨
       (l1.length ≤ 1024 ∧ l2.length ≤ 1024 ∧ d < 0 ∧ v = .tuple #[.slice none 0 0, .slice none 0 0, .slice none 0 0, .int .i64 7]) ∨
       (¬ (l1.length ≤ 1024 ∧ l2.length ≤ 1024) ∧ v = .tuple #[.slice none 0 0, .slice none 0 0, .slice none 0 0, .int .i64 5])) := by
  refine run_polys_Ring_b_Partial (by simp) ?_
  simp only [c_polys_Ring_b_Partial, WS, List.getElem_cons_zero, List.getElem_cons_succ, Option.isNone_some, Option.isNone_none, List.getD_cons_zero, List.getD_cons_succ, I.at, atL, atO, atP, evp, evs, retV, ↓reduceIte, Nat.reduceEqDiff, reduceCtorEq]
  obtain ⟨e1, n1⟩ := h1.hd
  obtain ⟨e2, n2⟩ := h2.hd
  refine X_bsl (zs := [hd s1, hd s2]) (fill2 h1 h2) rfl fun ls w1 ho hB => ?_
  obtain ⟨b, mv, iv, rfl, -, -⟩ := id hr
  simp only [WS, List.getElem_cons_zero, List.getElem_cons_succ, Option.isNone_some, Option.isNone_none, List.getD_cons_zero, List.getD_cons_succ, I.at, atL, atO, atP, evp, evs, retV, ↓reduceIte, Nat.reduceEqDiff, reduceCtorEq]
  refine X_call0 ((polys_Ring_b_refuses_spec w1 _ ls _ ho.sl (by simp) (by simp [n1, n2]; omega)).mono ?_)
  rintro v w' ⟨rfl, rfl⟩
  have hiff : (∀ x ∈ [hd s1, hd s2], x.n ≤ 1024) = (l1.length ≤ 1024 ∧ l2.length ≤ 1024) := by simp [n1, n2]
  by_cases hsz : l1.length ≤ 1024 ∧ l2.length ≤ 1024
  · rw [if_pos (hiff.mpr hsz)]
    simp only [WS, List.getElem_cons_zero, List.getElem_cons_succ, Option.isNone_some, Option.isNone_none, List.getD_cons_zero, List.getD_cons_succ, I.at, atL, atO, atP, evp, evs, retV, ↓reduceIte, Nat.reduceEqDiff, reduceCtorEq, show decide ((0 : Int) = 0) = true from rfl]
    by_cases hd0 : d < 0
    · simp (maxSteps := 1000000) (disch := omega) only [WS, List.getElem_cons_zero, List.getElem_cons_succ, Option.isNone_some, Option.isNone_none, List.getD_cons_zero, List.getD_cons_succ, I.at, atL, atO, atP, evp, evs, retV, ↓reduceIte, Nat.reduceEqDiff, reduceCtorEq, AS]
      exact ⟨hB, Or.inr (Or.inl ⟨hsz.1, hsz.2, hd0⟩)⟩
    obtain ⟨D, rfl⟩ : ∃ D : Nat, d = (D : Int) := ⟨d.toNat, by omega⟩
    rw [Int.toNat_natCast]
    simp (maxSteps := 1000000) (disch := omega) only [WS, List.getElem_cons_zero, List.getElem_cons_succ, Option.isNone_some, Option.isNone_none, List.getD_cons_zero, List.getD_cons_succ, I.at, atL, atO, atP, evp, evs, retV, ↓reduceIte, Nat.reduceEqDiff, reduceCtorEq, AS]
    refine X_call0 ((polys_copied_b_spec w' s1 l1 (h1.up hB) hb1).mono ?_)
    rintro sa w2 ⟨oa, hB2⟩
    have B2 : RowKit.Below w.heap.size w w2 := hB.trans (hB2.mono hB.size)
    simp (maxSteps := 1000000) (disch := omega) only [WS, List.getElem_cons_zero, List.getElem_cons_succ, Option.isNone_some, Option.isNone_none, List.getD_cons_zero, List.getD_cons_succ, I.at, atL, atO, atP, evp, evs, retV, ↓reduceIte, Nat.reduceEqDiff, reduceCtorEq, AS]
    refine X_call0 ((polys_copied_b_spec w2 s2 l2 (h2.up B2) hb2).mono ?_)
    rintro sb w3 ⟨ob, hB3⟩
    have B3 : RowKit.Below w.heap.size w w3 := B2.trans (hB3.mono B2.size)
    have oa := (oa.up hB3).mono hB.size
    have ob := ob.mono B2.size
    simp (maxSteps := 1000000) (disch := omega) only [WS, List.getElem_cons_zero, List.getElem_cons_succ, Option.isNone_some, Option.isNone_none, List.getD_cons_zero, List.getD_cons_succ, I.at, atL, atO, atP, evp, evs, retV, ↓reduceIte, Nat.reduceEqDiff, reduceCtorEq, AS]
    refine X_bsl (zs := [(1 : El 8)]) (by rfl) rfl fun su w4 ou hB4 => ?_
    have oa := oa.up hB4
    have ob := ob.up hB4
    have B4 := B3.trans (hB4.mono B3.size)
    have ou := ou.mono B3.size
    simp (maxSteps := 1000000) (disch := omega) only [WS, List.getElem_cons_zero, List.getElem_cons_succ, Option.isNone_some, Option.isNone_none, List.getD_cons_zero, List.getD_cons_succ, I.at, atL, atO, atP, evp, evs, retV, ↓reduceIte, Nat.reduceEqDiff, reduceCtorEq, AS]
    refine X_bsl (zs := [(1 : El 8)]) (by rfl) rfl fun st w5 ot hB5 => ?_
    have oa := oa.up hB5
    have ob := ob.up hB5
    have ou := ou.up hB5
    have B5 := B4.trans (hB5.mono B4.size)
    have ot := ot.mono B4.size
    clear hB hB2 hB3 hB4 hB5 B2 B3 B4
    simp (maxSteps := 1000000) (disch := omega) only [WS, List.getElem_cons_zero, List.getElem_cons_succ, Option.isNone_some, Option.isNone_none, List.getD_cons_zero, List.getD_cons_succ, I.at, atL, atO, atP, evp, evs, retV, ↓reduceIte, Nat.reduceEqDiff, reduceCtorEq, AS]
    have q1 := tln_le l1
    have q2 := tln_le l2
    refine loop_of (fun t w' => t 0 = .pointer (some ⟨b, 0, none⟩) ∧ t 3 = .int .i64 (D : Int) ∧ RowKit.Below w.heap.size w w' ∧ ∃ (sa sb su sv ss st : Value) (la lb lu lv ls lt : List (El 8)), t 13 = sa ∧ t 14 = sb ∧ t 9 = su ∧ t 10 = sv ∧ t 15 = ss ∧ t 16 = st ∧
        Ow w.heap.size w' sa la ∧ Ow w.heap.size w' sb lb ∧ Ow w.heap.size w' su lu ∧ Ow w.heap.size w' sv lv ∧ Ow w.heap.size w' ss ls ∧ Ow w.heap.size w' st lt ∧ tr la = la ∧ tr lb = lb ∧ tr lu = lu ∧ tr lv = lv ∧ tr ls = ls ∧ tr lt = lt ∧ la.length ≤ 1024 ∧ lb.length ≤ 1024 ∧
        lu.length + 1025 * lb.length ≤ 1101024 ∧ ls.length + 1025 * lb.length ≤ 1100000 ∧ lv.length + 1025 * lb.length ≤ 1101024 ∧ lt.length + 1025 * lb.length ≤ 1100000 ∧
        ∀ x y z, Eu D la lb lu lv ls lt x y z → Eu D (tr l1) (tr l2) [1] [] [] [1] x y z)
      (fun t w' => match t 14 with | .slice _ n _ => n | _ => 0) ⟨by simp only [WS, List.getElem_cons_zero, List.getElem_cons_succ, Option.isNone_some, Option.isNone_none, List.getD_cons_zero, List.getD_cons_succ, I.at, atL, atO, atP, evp, evs, retV, ↓reduceIte, Nat.reduceEqDiff, reduceCtorEq], by simp only [WS, List.getElem_cons_zero, List.getElem_cons_succ, Option.isNone_some, Option.isNone_none, List.getD_cons_zero, List.getD_cons_succ, I.at, atL, atO, atP, evp, evs, retV, ↓reduceIte, Nat.reduceEqDiff, reduceCtorEq], B5, sa, sb, su, _, _, st, tr l1, tr l2, [1], [], [], [1], by simp only [WS, List.getElem_cons_zero, List.getElem_cons_succ, Option.isNone_some, Option.isNone_none, List.getD_cons_zero, List.getD_cons_succ, I.at, atL, atO, atP, evp, evs, retV, ↓reduceIte, Nat.reduceEqDiff, reduceCtorEq], by simp only [WS, List.getElem_cons_zero, List.getElem_cons_succ, Option.isNone_some, Option.isNone_none, List.getD_cons_zero, List.getD_cons_succ, I.at, atL, atO, atP, evp, evs, retV, ↓reduceIte, Nat.reduceEqDiff, reduceCtorEq], by simp only [WS, List.getElem_cons_zero, List.getElem_cons_succ, Option.isNone_some, Option.isNone_none, List.getD_cons_zero, List.getD_cons_succ, I.at, atL, atO, atP, evp, evs, retV, ↓reduceIte, Nat.reduceEqDiff, reduceCtorEq], by simp only [WS, List.getElem_cons_zero, List.getElem_cons_succ, Option.isNone_some, Option.isNone_none, List.getD_cons_zero, List.getD_cons_succ, I.at, atL, atO, atP, evp, evs, retV, ↓reduceIte, Nat.reduceEqDiff, reduceCtorEq], by simp only [WS, List.getElem_cons_zero, List.getElem_cons_succ, Option.isNone_some, Option.isNone_none, List.getD_cons_zero, List.getD_cons_succ, I.at, atL, atO, atP, evp, evs, retV, ↓reduceIte, Nat.reduceEqDiff, reduceCtorEq], by simp only [WS, List.getElem_cons_zero, List.getElem_cons_succ, Option.isNone_some, Option.isNone_none, List.getD_cons_zero, List.getD_cons_succ, I.at, atL, atO, atP, evp, evs, retV, ↓reduceIte, Nat.reduceEqDiff, reduceCtorEq], oa, ob, ou, Ow.nil _ _, Ow.nil _ _, ot, tr_tr l1, tr_tr l2, tr_one, tr_nil, tr_nil, tr_one,
        by rw [tr_len]; omega, by rw [tr_len]; omega, by rw [tr_len]; simp; omega, by rw [tr_len]; simp; omega, by rw [tr_len]; simp; omega, by rw [tr_len]; simp; omega, fun x y z h => h⟩ ?_
    clear oa ob ou ot B5
    rintro t w6 ⟨t0, t3, B6, sa, sb, su, sv, ss, st, la, lb, lu, lv, ls, lt, t13, t14, t9, t10, t15, t16, oa, ob, ou, ov, os, ot, ta, tb, tu, tv, ts, tt, na, nb, nu, ns, nv, nt, hE⟩
    have wl : IntKind.i64.wrap ((la.length : Int) - 1) = (la.length : Int) - 1 := wrap_id (by omega) (by omega)
    by_cases hda : D < la.length
    · by_cases hz : lb.length = 0
      · obtain rfl : lb = [] := List.eq_nil_of_length_eq_zero hz
        simp (maxSteps := 1000000) (disch := omega) only [WS, List.getElem_cons_zero, List.getElem_cons_succ, Option.isNone_some, Option.isNone_none, List.getD_cons_zero, List.getD_cons_succ, I.at, atL, atO, atP, evp, evs, retV, ↓reduceIte, Nat.reduceEqDiff, reduceCtorEq, AS, t0, t3, t13, t14, t9, t10, t15, t16, oa.sl.Xlen, ob.sl.Xlen, wl]
        refine X_call0 ((polys_copied_b_spec w6 ss ls os.sl (by omega)).mono ?_)
        rintro s1' w7 ⟨o1, hB7⟩
        have ot := ot.up hB7
        have B7 := B6.trans (hB7.mono B6.size)
        have o1 := o1.mono B6.size
        simp (maxSteps := 1000000) (disch := omega) only [WS, List.getElem_cons_zero, List.getElem_cons_succ, Option.isNone_some, Option.isNone_none, List.getD_cons_zero, List.getD_cons_succ, I.at, atL, atO, atP, evp, evs, retV, ↓reduceIte, Nat.reduceEqDiff, reduceCtorEq, AS, t0, t3, t13, t14, t9, t10, t15, t16]
        refine X_call0 ((polys_copied_b_spec w7 st lt ot.sl (by omega)).mono ?_)
        rintro s2' w8 ⟨o2, hB8⟩
        have o1 := o1.up hB8
        have B8 := B7.trans (hB8.mono B7.size)
        have o2 := o2.mono B7.size
        simp (maxSteps := 1000000) (disch := omega) only [WS, List.getElem_cons_zero, List.getElem_cons_succ, Option.isNone_some, Option.isNone_none, List.getD_cons_zero, List.getD_cons_succ, I.at, atL, atO, atP, evp, evs, retV, ↓reduceIte, Nat.reduceEqDiff, reduceCtorEq, AS]
        rw [ts] at o1
        rw [tt] at o2
        exact ⟨B8, Or.inl ⟨hsz.1, hsz.2, by omega, _, s1', s2', [], ls, lt, rfl, Ow.nil _ _, o1, o2, hE _ _ _ (Eu.zero hda)⟩⟩
      · have hlen := len_tr tb
        have hlna := len_tr ta
        simp (maxSteps := 1000000) (disch := omega) only [WS, List.getElem_cons_zero, List.getElem_cons_succ, Option.isNone_some, Option.isNone_none, List.getD_cons_zero, List.getD_cons_succ, I.at, atL, atO, atP, evp, evs, retV, ↓reduceIte, Nat.reduceEqDiff, reduceCtorEq, AS, t0, t3, t13, t14, t9, t10, t15, t16, oa.sl.Xlen, ob.sl.Xlen, wl]
        refine X_call0 ((polys_Ring_b_divided_spec w6 _ sa sb la lb (hr.up B6) oa.sl ob.sl (by omega) (by omega) (by omega)).mono ?_)
        rintro _ w7 ⟨sq, sm, qq, m, rfl, oq, om, tq, tm, hco, hml, hql, hB⟩
        have oq := oq.mono B6.size
        have om := om.mono B6.size
        have ob := ob.up hB
        have ou := ou.up hB
        have ov := ov.up hB
        have os := os.up hB
        have ot := ot.up hB
        have B6 := B6.trans (hB.mono B6.size)
        clear hB
        simp (maxSteps := 1000000) (disch := omega) only [WS, List.getElem_cons_zero, List.getElem_cons_succ, Option.isNone_some, Option.isNone_none, List.getD_cons_zero, List.getD_cons_succ, I.at, atL, atO, atP, evp, evs, retV, ↓reduceIte, Nat.reduceEqDiff, reduceCtorEq, AS, t0, t3, t13, t14, t9, t10, t15, t16]
        refine X_call0 ((polys_Ring_b_product_spec w7 _ sq ss qq ls (hr.up B6) oq.sl os.sl (by omega) (by omega)).mono ?_)
        rintro sp w8 ⟨lp, op, tp, cp, np, hB⟩
        have op := op.mono B6.size
        have ob := ob.up hB
        have ou := ou.up hB
        have ov := ov.up hB
        have os := os.up hB
        have ot := ot.up hB
        have oq := oq.up hB
        have om := om.up hB
        have B6 := B6.trans (hB.mono B6.size)
        clear hB
        simp (maxSteps := 1000000) (disch := omega) only [WS, List.getElem_cons_zero, List.getElem_cons_succ, Option.isNone_some, Option.isNone_none, List.getD_cons_zero, List.getD_cons_succ, I.at, atL, atO, atP, evp, evs, retV, ↓reduceIte, Nat.reduceEqDiff, reduceCtorEq, AS, t0, t3, t13, t14, t9, t10, t15, t16]
        refine X_call0 ((polys_added_b_spec w8 su sp lu lp ou.sl op.sl (by omega) (by omega)).mono ?_)
        rintro su' w9 ⟨lu', ou', tu', cu', nu', hB⟩
        have ou' := ou'.mono B6.size
        have ob := ob.up hB
        have ov := ov.up hB
        have os := os.up hB
        have ot := ot.up hB
        have oq := oq.up hB
        have om := om.up hB
        have B6 := B6.trans (hB.mono B6.size)
        clear hB
        simp (maxSteps := 1000000) (disch := omega) only [WS, List.getElem_cons_zero, List.getElem_cons_succ, Option.isNone_some, Option.isNone_none, List.getD_cons_zero, List.getD_cons_succ, I.at, atL, atO, atP, evp, evs, retV, ↓reduceIte, Nat.reduceEqDiff, reduceCtorEq, AS, t0, t3, t13, t14, t9, t10, t15, t16]
        refine X_call0 ((polys_Ring_b_product_spec w9 _ sq st qq lt (hr.up B6) oq.sl ot.sl (by omega) (by omega)).mono ?_)
        rintro sp2 w10 ⟨lp2, op2, tp2, cp2, np2, hB⟩
        have op2 := op2.mono B6.size
        have ob := ob.up hB
        have ov := ov.up hB
        have os := os.up hB
        have ot := ot.up hB
        have om := om.up hB
        have ou' := ou'.up hB
        have B6 := B6.trans (hB.mono B6.size)
        clear hB
        simp (maxSteps := 1000000) (disch := omega) only [WS, List.getElem_cons_zero, List.getElem_cons_succ, Option.isNone_some, Option.isNone_none, List.getD_cons_zero, List.getD_cons_succ, I.at, atL, atO, atP, evp, evs, retV, ↓reduceIte, Nat.reduceEqDiff, reduceCtorEq, AS, t0, t3, t13, t14, t9, t10, t15, t16]
        refine X_call0 ((polys_added_b_spec w10 sv sp2 lv lp2 ov.sl op2.sl (by omega) (by omega)).mono ?_)
        rintro sv' w11 ⟨lv', ov', tv', cv', nv', hB⟩
        have ov' := ov'.mono B6.size
        have ob := ob.up hB
        have os := os.up hB
        have ot := ot.up hB
        have om := om.up hB
        have ou' := ou'.up hB
        have B6 := B6.trans (hB.mono B6.size)
        clear hB
        simp (maxSteps := 1000000) (disch := omega) only [WS, List.getElem_cons_zero, List.getElem_cons_succ, Option.isNone_some, Option.isNone_none, List.getD_cons_zero, List.getD_cons_succ, I.at, atL, atO, atP, evp, evs, retV, ↓reduceIte, Nat.reduceEqDiff, reduceCtorEq, AS, t0, t3, t13, t14, t9, t10, t15, t16]
        refine ⟨⟨B6, sb, sm, ss, st, su', sv', lb, m, ls, lt, lu', lv', rfl, rfl, rfl, rfl, rfl, rfl, ob, om, os, ot, ou', ov', tb, tm, ts, tt, tu', tv', nb, by omega, by omega, by omega, by omega, by omega, fun x y z h => hE _ _ _ ?_⟩, ?_⟩
        · exact Eu.step hda (by rintro rfl; simp at hz) tq tm hco (by omega) tu' (by rw [cu', cp]) tv' (by rw [cv', cp2]) h
        · obtain ⟨a1, c1, e3, -, -⟩ := om.sl.sh
          obtain ⟨a2, c2, e4, -, -⟩ := ob.sl.sh
          rw [e3, e4]
          show m.length < lb.length
          omega
    · simp (maxSteps := 1000000) (disch := omega) only [WS, List.getElem_cons_zero, List.getElem_cons_succ, Option.isNone_some, Option.isNone_none, List.getD_cons_zero, List.getD_cons_succ, I.at, atL, atO, atP, evp, evs, retV, ↓reduceIte, Nat.reduceEqDiff, reduceCtorEq, AS, t0, t3, t13, t14, t9, t10, t15, t16, oa.sl.Xlen, wl]
      refine X_call0 ((polys_copied_b_spec w6 su lu ou.sl (by omega)).mono ?_)
      rintro s1' w7 ⟨o1, hB7⟩
      have oa := oa.up hB7
      have ov := ov.up hB7
      have B7 := B6.trans (hB7.mono B6.size)
      have o1 := o1.mono B6.size
      simp (maxSteps := 1000000) (disch := omega) only [WS, List.getElem_cons_zero, List.getElem_cons_succ, Option.isNone_some, Option.isNone_none, List.getD_cons_zero, List.getD_cons_succ, I.at, atL, atO, atP, evp, evs, retV, ↓reduceIte, Nat.reduceEqDiff, reduceCtorEq, AS, t0, t3, t13, t14, t9, t10, t15, t16]
      refine X_call0 ((polys_copied_b_spec w7 sv lv ov.sl (by omega)).mono ?_)
      rintro s2' w8 ⟨o2, hB8⟩
      have o1 := o1.up hB8
      have oa := oa.up hB8
      have B8 := B7.trans (hB8.mono B7.size)
      have o2 := o2.mono B7.size
      simp (maxSteps := 1000000) (disch := omega) only [WS, List.getElem_cons_zero, List.getElem_cons_succ, Option.isNone_some, Option.isNone_none, List.getD_cons_zero, List.getD_cons_succ, I.at, atL, atO, atP, evp, evs, retV, ↓reduceIte, Nat.reduceEqDiff, reduceCtorEq, AS, t0, t3, t13, t14, t9, t10, t15, t16]
      rw [tu] at o1
      rw [tv] at o2
      exact ⟨B8, Or.inl ⟨hsz.1, hsz.2, by omega, sa, s1', s2', la, lu, lv, rfl, oa, o1, o2, hE _ _ _ (Eu.stop (by omega))⟩⟩
  · rw [if_neg (fun e => hsz (hiff.mp e))]
    simp only [WS, List.getElem_cons_zero, List.getElem_cons_succ, Option.isNone_some, Option.isNone_none, List.getD_cons_zero, List.getD_cons_succ, I.at, atL, atO, atP, evp, evs, retV, ↓reduceIte, Nat.reduceEqDiff, reduceCtorEq, show decide ((5 : Int) = 0) = false from rfl]
    exact ⟨hB, Or.inr (Or.inr hsz)⟩
end Go.Proofs.Ytbaljbadlfopgaa.Fw
