import Derived.Test.YtbaljbadlfopgaaProg
import Derived.Test.YtbaljbadlfopgaaFwTW
import Derived.Test.YtbaljbadlfopgaaGfEW
import Derived.Test.YtbaljbadlfopgaaGfXW
import Derived.Test.YtbaljbadlfopgaaGfLW
set_option linter.all false
set_option linter.unusedVariables false
set_option linter.unusedSimpArgs false
set_option maxRecDepth 100000
set_option maxHeartbeats 1000000
namespace Go.Proofs.Ytbaljbadlfopgaa.Fw
open Go Go.Fw Go.Proofs
attribute [local irreducible] stepI
def c_polys_Ring_b_Partial : C := .seq (.ops [⟨0,some 8,none,.mov (.c (.slice none 0 0)),[]⟩,⟨1,some 9,none,.mov (.c (.slice none 0 0)),[]⟩,⟨2,some 10,none,.mov (.c (.slice none 0 0)),[]⟩,⟨3,some 11,none,.mov (.c (.int .i64 0)),[]⟩]) (.seq (.seq (.ops [⟨0,some 19,none,.mov (.t 0),[]⟩,⟨1,some 20,none,.mov (.t 1),[]⟩,⟨2,some 21,none,.mov (.t 2),[]⟩,⟨3,some 22,none,.bsl 25 2 [.slice none 0 0] [(0,(1,.t 20)),(1,(1,.t 21))],[]⟩,⟨4,some 23,none,.call (.c (.func (.func 87) #[] #[])) [.t 19,.t 22],[]⟩,⟨5,some 12,none,.mov (.t 23),[]⟩]) (.seq (.ops [⟨0,some 24,none,.mov (.t 12),[]⟩,⟨1,some 25,none,.bin .neq (.t 24) (.c (.int .i64 0)),[]⟩]) (.ite (.t 25) (.seq (.ops [⟨0,some 26,none,.mov (.t 12),[]⟩,⟨1,some 8,none,.mov (.c (.slice none 0 0)),[]⟩,⟨2,some 9,none,.mov (.c (.slice none 0 0)),[]⟩,⟨3,some 10,none,.mov (.c (.slice none 0 0)),[]⟩,⟨4,some 11,none,.mov (.t 26),[]⟩]) .ret) .skip))) (.seq (.seq (.ops [⟨0,some 27,none,.mov (.t 3),[]⟩,⟨1,some 28,none,.bin .lss (.t 27) (.c (.int .i64 0)),[]⟩]) (.ite (.t 28) (.seq (.ops [⟨0,some 8,none,.mov (.c (.slice none 0 0)),[]⟩,⟨1,some 9,none,.mov (.c (.slice none 0 0)),[]⟩,⟨2,some 10,none,.mov (.c (.slice none 0 0)),[]⟩,⟨3,some 11,none,.mov (.c (.int .i64 7)),[]⟩]) .ret) .skip)) (.seq (.ops [⟨0,some 29,none,.mov (.t 1),[]⟩,⟨1,some 30,none,.call (.c (.func (.func 125) #[] #[])) [.t 29],[]⟩,⟨2,some 31,none,.mov (.t 2),[]⟩,⟨3,some 32,none,.call (.c (.func (.func 125) #[] #[])) [.t 31],[]⟩,⟨4,some 13,none,.mov (.t 30),[]⟩,⟨5,some 14,none,.mov (.t 32),[]⟩]) (.seq (.ops [⟨0,some 33,none,.bsl 5 1 [.int .u8 0] [(0,(1,.c (.int .u8 1)))],[]⟩,⟨1,some 9,none,.mov (.t 33),[]⟩,⟨2,some 10,none,.mov (.c (.slice none 0 0)),[]⟩]) (.seq (.ops [⟨0,some 34,none,.bsl 5 1 [.int .u8 0] [(0,(1,.c (.int .u8 1)))],[]⟩,⟨1,some 15,none,.mov (.c (.slice none 0 0)),[]⟩,⟨2,some 16,none,.mov (.t 34),[]⟩]) (.seq (.block 0 (.loop (.seq (.seq (.ops [⟨0,some 35,none,.mov (.t 13),[]⟩,⟨1,some 36,none,.len (.t 35),[]⟩,⟨2,some 37,none,.bin .sub (.t 36) (.c (.int .i64 1)),[]⟩,⟨3,some 38,none,.mov (.t 3),[]⟩,⟨4,some 39,none,.bin .geq (.t 37) (.t 38),[]⟩]) (.ite (.t 39) .skip (.exit 0))) (.block 1 (.seq (.seq (.ops [⟨0,some 40,none,.mov (.t 14),[]⟩,⟨1,some 41,none,.len (.t 40),[]⟩,⟨2,some 42,none,.bin .eql (.t 41) (.c (.int .i64 0)),[]⟩]) (.ite (.t 42) (.seq (.ops [⟨0,some 43,none,.mov (.t 15),[]⟩,⟨1,some 44,none,.call (.c (.func (.func 125) #[] #[])) [.t 43],[]⟩,⟨2,some 45,none,.mov (.t 16),[]⟩,⟨3,some 46,none,.call (.c (.func (.func 125) #[] #[])) [.t 45],[]⟩,⟨4,some 8,none,.mov (.c (.slice none 0 0)),[]⟩,⟨5,some 9,none,.mov (.t 44),[]⟩,⟨6,some 10,none,.mov (.t 46),[]⟩,⟨7,some 11,none,.mov (.c (.int .i64 0)),[]⟩]) .ret) .skip)) (.seq (.ops [⟨0,some 48,none,.mov (.t 0),[]⟩,⟨1,some 49,none,.mov (.t 13),[]⟩,⟨2,some 50,none,.mov (.t 14),[]⟩,⟨3,some 51,none,.call (.c (.func (.func 127) #[] #[])) [.t 48,.t 49,.t 50],[]⟩,⟨4,some 47,none,.mov (.t 51),[]⟩,⟨5,some 52,none,.ext (.t 47) 0,[]⟩,⟨6,some 53,none,.ext (.t 47) 1,[]⟩,⟨7,some 17,none,.mov (.t 52),[]⟩,⟨8,some 18,none,.mov (.t 53),[]⟩]) (.seq (.ops [⟨0,some 54,none,.mov (.t 14),[]⟩,⟨1,some 55,none,.mov (.t 18),[]⟩,⟨2,some 13,none,.mov (.t 54),[]⟩,⟨3,some 14,none,.mov (.t 55),[]⟩]) (.seq (.ops [⟨0,some 56,none,.mov (.t 15),[]⟩,⟨1,some 57,none,.mov (.t 9),[]⟩,⟨2,some 58,none,.mov (.t 0),[]⟩,⟨3,some 59,none,.mov (.t 17),[]⟩,⟨4,some 60,none,.mov (.t 15),[]⟩,⟨5,some 61,none,.call (.c (.func (.func 129) #[] #[])) [.t 58,.t 59,.t 60],[]⟩,⟨6,some 62,none,.call (.c (.func (.func 128) #[] #[])) [.t 57,.t 61],[]⟩,⟨7,some 9,none,.mov (.t 56),[]⟩,⟨8,some 15,none,.mov (.t 62),[]⟩]) (.ops [⟨0,some 63,none,.mov (.t 16),[]⟩,⟨1,some 64,none,.mov (.t 10),[]⟩,⟨2,some 65,none,.mov (.t 0),[]⟩,⟨3,some 66,none,.mov (.t 17),[]⟩,⟨4,some 67,none,.mov (.t 16),[]⟩,⟨5,some 68,none,.call (.c (.func (.func 129) #[] #[])) [.t 65,.t 66,.t 67],[]⟩,⟨6,some 69,none,.call (.c (.func (.func 128) #[] #[])) [.t 64,.t 68],[]⟩,⟨7,some 10,none,.mov (.t 63),[]⟩,⟨8,some 16,none,.mov (.t 69),[]⟩]))))))))) (.seq (.ops [⟨0,some 70,none,.mov (.t 13),[]⟩,⟨1,some 71,none,.mov (.t 9),[]⟩,⟨2,some 72,none,.call (.c (.func (.func 125) #[] #[])) [.t 71],[]⟩,⟨3,some 73,none,.mov (.t 10),[]⟩,⟨4,some 74,none,.call (.c (.func (.func 125) #[] #[])) [.t 73],[]⟩,⟨5,some 8,none,.mov (.t 70),[]⟩,⟨6,some 9,none,.mov (.t 72),[]⟩,⟨7,some 10,none,.mov (.t 74),[]⟩,⟨8,some 11,none,.mov (.c (.int .i64 0)),[]⟩]) .ret)))))))
attribute [irreducible] c_polys_Ring_b_Partial
theorem run_polys_Ring_b_Partial {args : List Value} {w : World} {K : Value → World → Prop} (hn : args.length ≤ 75) (h : WP Try.prog c_polys_Ring_b_Partial (endQ [.t 8, .t 9, .t 10, .t 11] K) (initT args) w) : CallV Try.prog 90 args w K :=
  call_of follows Try.func90 (by kernel_rfl) (by kernel_rfl) hn h
end Go.Proofs.Ytbaljbadlfopgaa.Fw
namespace Go.Proofs.Ytbaljbadlfopgaa.Fw
open Go Go.Fw
theorem polys_Ring_b_Partial_spec (w : World) (r s1 s2 : Value) (l1 l2 : List (El 8)) (d : Int) (hr : Ring_b w r) (h1 : Sl w s1 l1) (h2 : Sl w s2 l2) (hb1 : l1.length ≤ 70368744175616) (hb2 : l2.length ≤ 70368744175616) :
    CallV Try.prog 90 [r, s1, s2, .int .i64 d] w fun v w' => RowKit.Below w.heap.size w w' ∧
      ((l1.length ≤ 1024 ∧ l2.length ≤ 1024 ∧ 0 ≤ d ∧ ∃ sm su sv m u v', v = .tuple #[sm, su, sv, .int .i64 0] ∧ Ow w.heap.size w' sm m ∧ Ow w.heap.size w' su u ∧ Ow w.heap.size w' sv v' ∧ Eu d.toNat (tr l1) (tr l2) [1] [] [] [1] m u v') ∨
       (l1.length ≤ 1024 ∧ l2.length ≤ 1024 ∧ d < 0 ∧ v = .tuple #[.slice none 0 0, .slice none 0 0, .slice none 0 0, .int .i64 7]) ∨
       (¬ (l1.length ≤ 1024 ∧ l2.length ≤ 1024) ∧ v = .tuple #[.slice none 0 0, .slice none 0 0, .slice none 0 0, .int .i64 5])) := by
  refine run_polys_Ring_b_Partial (by simp) ?_
  simp only [c_polys_Ring_b_Partial, WS, ↓reduceIte, Nat.reduceEqDiff, reduceCtorEq]
  obtain ⟨e1, n1⟩ := h1.hd
  obtain ⟨e2, n2⟩ := h2.hd
  refine X_bsl (zs := [hd s1, hd s2]) (fill2 h1 h2) rfl fun ls w1 ho hB => ?_
  obtain ⟨b, mv, iv, rfl, -, -⟩ := id hr
  simp only [WS, ↓reduceIte, Nat.reduceEqDiff, reduceCtorEq]
  refine X_call0 ((polys_Ring_b_refuses_spec w1 _ ls _ ho.sl (by simp) (by simp [n1, n2]; omega)).mono ?_)
  rintro v w' ⟨rfl, rfl⟩
  have hiff : (∀ x ∈ [hd s1, hd s2], x.n ≤ 1024) = (l1.length ≤ 1024 ∧ l2.length ≤ 1024) := by simp [n1, n2]
  by_cases hsz : l1.length ≤ 1024 ∧ l2.length ≤ 1024
  · rw [if_pos (hiff.mpr hsz)]
    simp only [WS, ↓reduceIte, Nat.reduceEqDiff, reduceCtorEq, show decide ((0 : Int) = 0) = true from rfl]
    by_cases hd0 : d < 0
    · simp (maxSteps := 1000000) (disch := omega) only [WS, ↓reduceIte, Nat.reduceEqDiff, reduceCtorEq, AS]
      exact ⟨hB, Or.inr (Or.inl ⟨hsz.1, hsz.2, hd0⟩)⟩
    obtain ⟨D, rfl⟩ : ∃ D : Nat, d = (D : Int) := ⟨d.toNat, by omega⟩
    rw [Int.toNat_natCast]
    simp (maxSteps := 1000000) (disch := omega) only [WS, ↓reduceIte, Nat.reduceEqDiff, reduceCtorEq, AS]
    refine X_call0 ((polys_copied_b_spec w' s1 l1 (h1.up hB) hb1).mono ?_)
    rintro sa w2 ⟨oa, hB2⟩
    have B2 : RowKit.Below w.heap.size w w2 := hB.trans (hB2.mono hB.size)
    simp (maxSteps := 1000000) (disch := omega) only [WS, ↓reduceIte, Nat.reduceEqDiff, reduceCtorEq, AS]
    refine X_call0 ((polys_copied_b_spec w2 s2 l2 (h2.up B2) hb2).mono ?_)
    rintro sb w3 ⟨ob, hB3⟩
    have B3 : RowKit.Below w.heap.size w w3 := B2.trans (hB3.mono B2.size)
    have oa := (oa.up hB3).mono hB.size
    have ob := ob.mono B2.size
    simp (maxSteps := 1000000) (disch := omega) only [WS, ↓reduceIte, Nat.reduceEqDiff, reduceCtorEq, AS]
    refine X_bsl (zs := [(1 : El 8)]) (by rfl) rfl fun su w4 ou hB4 => ?_
    have oa := oa.up hB4
    have ob := ob.up hB4
    have B4 := B3.trans (hB4.mono B3.size)
    have ou := ou.mono B3.size
    simp (maxSteps := 1000000) (disch := omega) only [WS, ↓reduceIte, Nat.reduceEqDiff, reduceCtorEq, AS]
    refine X_bsl (zs := [(1 : El 8)]) (by rfl) rfl fun st w5 ot hB5 => ?_
    have oa := oa.up hB5
    have ob := ob.up hB5
    have ou := ou.up hB5
    have B5 := B4.trans (hB5.mono B4.size)
    have ot := ot.mono B4.size
    clear hB hB2 hB3 hB4 hB5 B2 B3 B4
    simp (maxSteps := 1000000) (disch := omega) only [WS, ↓reduceIte, Nat.reduceEqDiff, reduceCtorEq, AS]
    have q1 := tln_le l1
    have q2 := tln_le l2
    refine loop_of (fun t w' => t 0 = .pointer (some ⟨b, 0, none⟩) ∧ t 3 = .int .i64 (D : Int) ∧ RowKit.Below w.heap.size w w' ∧ ∃ (sa sb su sv ss st : Value) (la lb lu lv ls lt : List (El 8)), t 13 = sa ∧ t 14 = sb ∧ t 9 = su ∧ t 10 = sv ∧ t 15 = ss ∧ t 16 = st ∧
        Ow w.heap.size w' sa la ∧ Ow w.heap.size w' sb lb ∧ Ow w.heap.size w' su lu ∧ Ow w.heap.size w' sv lv ∧ Ow w.heap.size w' ss ls ∧ Ow w.heap.size w' st lt ∧ tr la = la ∧ tr lb = lb ∧ tr lu = lu ∧ tr lv = lv ∧ tr ls = ls ∧ tr lt = lt ∧ la.length ≤ 1024 ∧ lb.length ≤ 1024 ∧
        lu.length + 1025 * lb.length ≤ 1101024 ∧ ls.length + 1025 * lb.length ≤ 1100000 ∧ lv.length + 1025 * lb.length ≤ 1101024 ∧ lt.length + 1025 * lb.length ≤ 1100000 ∧
        ∀ x y z, Eu D la lb lu lv ls lt x y z → Eu D (tr l1) (tr l2) [1] [] [] [1] x y z)
      (fun t w' => match t 14 with | .slice _ n _ => n | _ => 0) ⟨by simp only [WS, ↓reduceIte, Nat.reduceEqDiff, reduceCtorEq], by simp only [WS, ↓reduceIte, Nat.reduceEqDiff, reduceCtorEq], B5, sa, sb, su, _, _, st, tr l1, tr l2, [1], [], [], [1], by simp only [WS, ↓reduceIte, Nat.reduceEqDiff, reduceCtorEq], by simp only [WS, ↓reduceIte, Nat.reduceEqDiff, reduceCtorEq], by simp only [WS, ↓reduceIte, Nat.reduceEqDiff, reduceCtorEq], by simp only [WS, ↓reduceIte, Nat.reduceEqDiff, reduceCtorEq], by simp only [WS, ↓reduceIte, Nat.reduceEqDiff, reduceCtorEq], by simp only [WS, ↓reduceIte, Nat.reduceEqDiff, reduceCtorEq], oa, ob, ou, Ow.nil _ _, Ow.nil _ _, ot, tr_tr l1, tr_tr l2, tr_one, tr_nil, tr_nil, tr_one,
        by rw [tr_len]; omega, by rw [tr_len]; omega, by rw [tr_len]; simp; omega, by rw [tr_len]; simp; omega, by rw [tr_len]; simp; omega, by rw [tr_len]; simp; omega, fun x y z h => h⟩ ?_
    clear oa ob ou ot B5
    rintro t w6 ⟨t0, t3, B6, sa, sb, su, sv, ss, st, la, lb, lu, lv, ls, lt, t13, t14, t9, t10, t15, t16, oa, ob, ou, ov, os, ot, ta, tb, tu, tv, ts, tt, na, nb, nu, ns, nv, nt, hE⟩
    have wl : IntKind.i64.wrap ((la.length : Int) - 1) = (la.length : Int) - 1 := wrap_id (by omega) (by omega)
    by_cases hda : D < la.length
    · by_cases hz : lb.length = 0
      · obtain rfl : lb = [] := List.eq_nil_of_length_eq_zero hz
        simp (maxSteps := 1000000) (disch := omega) only [WS, ↓reduceIte, Nat.reduceEqDiff, reduceCtorEq, AS, t0, t3, t13, t14, t9, t10, t15, t16, oa.sl.Xlen, ob.sl.Xlen, wl]
        refine X_call0 ((polys_copied_b_spec w6 ss ls os.sl (by omega)).mono ?_)
        rintro s1' w7 ⟨o1, hB7⟩
        have ot := ot.up hB7
        have B7 := B6.trans (hB7.mono B6.size)
        have o1 := o1.mono B6.size
        simp (maxSteps := 1000000) (disch := omega) only [WS, ↓reduceIte, Nat.reduceEqDiff, reduceCtorEq, AS, t0, t3, t13, t14, t9, t10, t15, t16]
        refine X_call0 ((polys_copied_b_spec w7 st lt ot.sl (by omega)).mono ?_)
        rintro s2' w8 ⟨o2, hB8⟩
        have o1 := o1.up hB8
        have B8 := B7.trans (hB8.mono B7.size)
        have o2 := o2.mono B7.size
        simp (maxSteps := 1000000) (disch := omega) only [WS, ↓reduceIte, Nat.reduceEqDiff, reduceCtorEq, AS]
        rw [ts] at o1
        rw [tt] at o2
        exact ⟨B8, Or.inl ⟨hsz.1, hsz.2, by omega, _, s1', s2', [], ls, lt, rfl, Ow.nil _ _, o1, o2, hE _ _ _ (Eu.zero hda)⟩⟩
      · have hlen := len_tr tb
        have hlna := len_tr ta
        simp (maxSteps := 1000000) (disch := omega) only [WS, ↓reduceIte, Nat.reduceEqDiff, reduceCtorEq, AS, t0, t3, t13, t14, t9, t10, t15, t16, oa.sl.Xlen, ob.sl.Xlen, wl]
        refine X_call0 ((polys_Ring_b_divided_spec w6 _ sa sb la lb (hr.up B6) oa.sl ob.sl (by omega) (by omega) (by omega)).mono ?_)
        rintro _ w7 ⟨sq, sm, qq, m, rfl, oq, om, tq, tm, hco, hml, hql, hB⟩
        have oq := oq.mono B6.size
        have om := om.mono B6.size
        have ob := ob.up hB
        have ou := ou.up hB
        have ov := ov.up hB
        have os := os.up hB
        have ot := ot.up hB
        have B6 := B6.trans (hB.mono B6.size)
        clear hB
        simp (maxSteps := 1000000) (disch := omega) only [WS, ↓reduceIte, Nat.reduceEqDiff, reduceCtorEq, AS, t0, t3, t13, t14, t9, t10, t15, t16]
        refine X_call0 ((polys_Ring_b_product_spec w7 _ sq ss qq ls (hr.up B6) oq.sl os.sl (by omega) (by omega)).mono ?_)
        rintro sp w8 ⟨lp, op, tp, cp, np, hB⟩
        have op := op.mono B6.size
        have ob := ob.up hB
        have ou := ou.up hB
        have ov := ov.up hB
        have os := os.up hB
        have ot := ot.up hB
        have oq := oq.up hB
        have om := om.up hB
        have B6 := B6.trans (hB.mono B6.size)
        clear hB
        simp (maxSteps := 1000000) (disch := omega) only [WS, ↓reduceIte, Nat.reduceEqDiff, reduceCtorEq, AS, t0, t3, t13, t14, t9, t10, t15, t16]
        refine X_call0 ((polys_added_b_spec w8 su sp lu lp ou.sl op.sl (by omega) (by omega)).mono ?_)
        rintro su' w9 ⟨lu', ou', tu', cu', nu', hB⟩
        have ou' := ou'.mono B6.size
        have ob := ob.up hB
        have ov := ov.up hB
        have os := os.up hB
        have ot := ot.up hB
        have oq := oq.up hB
        have om := om.up hB
        have B6 := B6.trans (hB.mono B6.size)
        clear hB
        simp (maxSteps := 1000000) (disch := omega) only [WS, ↓reduceIte, Nat.reduceEqDiff, reduceCtorEq, AS, t0, t3, t13, t14, t9, t10, t15, t16]
        refine X_call0 ((polys_Ring_b_product_spec w9 _ sq st qq lt (hr.up B6) oq.sl ot.sl (by omega) (by omega)).mono ?_)
        rintro sp2 w10 ⟨lp2, op2, tp2, cp2, np2, hB⟩
        have op2 := op2.mono B6.size
        have ob := ob.up hB
        have ov := ov.up hB
        have os := os.up hB
        have ot := ot.up hB
        have om := om.up hB
        have ou' := ou'.up hB
        have B6 := B6.trans (hB.mono B6.size)
        clear hB
        simp (maxSteps := 1000000) (disch := omega) only [WS, ↓reduceIte, Nat.reduceEqDiff, reduceCtorEq, AS, t0, t3, t13, t14, t9, t10, t15, t16]
        refine X_call0 ((polys_added_b_spec w10 sv sp2 lv lp2 ov.sl op2.sl (by omega) (by omega)).mono ?_)
        rintro sv' w11 ⟨lv', ov', tv', cv', nv', hB⟩
        have ov' := ov'.mono B6.size
        have ob := ob.up hB
        have os := os.up hB
        have ot := ot.up hB
        have om := om.up hB
        have ou' := ou'.up hB
        have B6 := B6.trans (hB.mono B6.size)
        clear hB
        simp (maxSteps := 1000000) (disch := omega) only [WS, ↓reduceIte, Nat.reduceEqDiff, reduceCtorEq, AS, t0, t3, t13, t14, t9, t10, t15, t16]
        refine ⟨⟨B6, sb, sm, ss, st, su', sv', lb, m, ls, lt, lu', lv', rfl, rfl, rfl, rfl, rfl, rfl, ob, om, os, ot, ou', ov', tb, tm, ts, tt, tu', tv', nb, by omega, by omega, by omega, by omega, by omega, fun x y z h => hE _ _ _ ?_⟩, ?_⟩
        · exact Eu.step hda (by rintro rfl; simp at hz) tq tm hco (by omega) tu' (by rw [cu', cp]) tv' (by rw [cv', cp2]) h
        · obtain ⟨a1, c1, e3, -, -⟩ := om.sl.sh
          obtain ⟨a2, c2, e4, -, -⟩ := ob.sl.sh
          rw [e3, e4]
          show m.length < lb.length
          omega
    · simp (maxSteps := 1000000) (disch := omega) only [WS, ↓reduceIte, Nat.reduceEqDiff, reduceCtorEq, AS, t0, t3, t13, t14, t9, t10, t15, t16, oa.sl.Xlen, wl]
      refine X_call0 ((polys_copied_b_spec w6 su lu ou.sl (by omega)).mono ?_)
      rintro s1' w7 ⟨o1, hB7⟩
      have oa := oa.up hB7
      have ov := ov.up hB7
      have B7 := B6.trans (hB7.mono B6.size)
      have o1 := o1.mono B6.size
      simp (maxSteps := 1000000) (disch := omega) only [WS, ↓reduceIte, Nat.reduceEqDiff, reduceCtorEq, AS, t0, t3, t13, t14, t9, t10, t15, t16]
      refine X_call0 ((polys_copied_b_spec w7 sv lv ov.sl (by omega)).mono ?_)
      rintro s2' w8 ⟨o2, hB8⟩
      have o1 := o1.up hB8
      have oa := oa.up hB8
      have B8 := B7.trans (hB8.mono B7.size)
      have o2 := o2.mono B7.size
      simp (maxSteps := 1000000) (disch := omega) only [WS, ↓reduceIte, Nat.reduceEqDiff, reduceCtorEq, AS, t0, t3, t13, t14, t9, t10, t15, t16]
      rw [tu] at o1
      rw [tv] at o2
      exact ⟨B8, Or.inl ⟨hsz.1, hsz.2, by omega, sa, s1', s2', la, lu, lv, rfl, oa, o1, o2, hE _ _ _ (Eu.stop (by omega))⟩⟩
  · rw [if_neg (fun e => hsz (hiff.mp e))]
    simp only [WS, ↓reduceIte, Nat.reduceEqDiff, reduceCtorEq, show decide ((5 : Int) = 0) = false from rfl]
    exact ⟨hB, Or.inr (Or.inr hsz)⟩
end Go.Proofs.Ytbaljbadlfopgaa.Fw

/- Lagrange's form: the product of all X + x but one; two interpolations of the same values are one. -/
set_option linter.unusedVariables false
set_option linter.unusedSimpArgs false
namespace Go.Fw
open Go
section
variable {n : Nat} [F : Fd n]
end
end Go.Fw

/- The decoder: of values that are those of a short polynomial at all but few points, Euclid's remainder divided by its factor is that polynomial. -/
set_option linter.unusedVariables false
set_option linter.unusedSimpArgs false
namespace Go.Fw
open Go
section
variable {n : Nat} [F : Fd n]
/-- The places at which the polynomial's values are not these. -/
def offs (g : List (El n)) (X Y : Nat → El n) (N : Nat) : List Nat := (List.range N).filter fun j => !decide (evl g (X j) = Y j)
theorem offs_mem {g : List (El n)} {X Y : Nat → El n} {N j : Nat} : j ∈ offs g X Y N ↔ j < N ∧ evl g (X j) ≠ Y j := by
  unfold offs
  rw [List.mem_filter, List.mem_range]
  simp
theorem evn_more2 {f : Ps n} {d e : Nat} (x : El n) (hd : Dg f d) (h : d ≤ e) : evn f x e = evn f x d := evn_eq (hd.mono h) hd
theorem mul_eq_zero' {w p : List (El n)} (hw : tln w ≠ 0) (h : co w * co p = 0) : co p = 0 := by
  by_cases hp : tln p = 0
  · exact co_zero_of_tln hp
  · exfalso
    have h1 := tln_mul (p := ([] : List (El n))) (by rw [h, co_nil]) hw hp
    simp [tln] at h1
    omega
theorem vps_tln (l : List (El n)) {w : List (El n)} (h : co w = vps l) : tln w = l.length + 1 := tln_of (by rw [h]; exact vps_dg l) (Or.inr (by rw [h, Nat.add_sub_cancel, vps_top]; exact El.one_ne))
theorem gao {N k d : Nat} {X Y : Nat → El n} (hX : ∀ a b, a < N → b < N → X a = X b → a = b) {A f m u v g : List (El n)} (hA : co A = vps ((List.range N).map X)) (hf : Dg (co f) N) (hfv : ∀ j, j < N → evn (co f) (X j) N = Y j)
    (h : Eu d (tr A) (tr f) [1] [] [] [1] m u v) (hk : k < N) (hd : d = (N + k + 1) / 2) (hg : Dg (co g) k) (hn : (offs g X Y N).length ≤ (N - k) / 2) : co m = co v * co g ∧ v ≠ [] := by
  have P := h.whole
  have tA : tln A = N + 1 := by rw [vps_tln _ hA]; simp
  have tf : tln f ≤ N := by
    have := len_le (a := tr f) (tr_tr f) (k := N) (by rw [tr_co]; exact hf)
    rwa [tr_len] at this
  obtain ⟨-, -, -, hz⟩ := h.lens
  have hvl : v.length + d ≤ N + 1 := by rw [← tA]; exact hz (by omega) (by omega)
  have hml := P.lm
  generalize he : (offs g X Y N).length = e at hn
  have dA : Dg (co A) (N + 1) := by rw [← tA]; exact tln_dg A
  have zA : ∀ j, j < N → evn (co A) (X j) (N + 1) = 0 := fun j hj => by
    have h1 := (ev_vps_zero (X j) ((List.range N).map X)).2 (List.mem_map.2 ⟨j, List.mem_range.2 hj, rfl⟩)
    rw [List.length_map, List.length_range] at h1
    rw [hA]; exact h1
  -- m at the points
  have hm : ∀ j, j < N → evn (co m) (X j) m.length = evn (co v) (X j) v.length * Y j := fun j hj => by
    have dv : Dg (co v * co f) (v.length + N) := ((co_dg v).mul hf).mono (by omega)
    have du : Dg (co u * co A) (u.length + (N + 1)) := ((co_dg u).mul dA).mono (by omega)
    obtain ⟨M, hM⟩ : ∃ M, M = m.length + u.length + v.length + N + N + 1 := ⟨_, rfl⟩
    have h1 : evn (co m) (X j) M = evn (co u * co A + co v * co f) (X j) M := by rw [P.eq]
    rw [evn_add, evn_more2 _ (co_dg m) (by omega), evn_more2 _ du (by omega), evn_more2 _ dv (by omega), evn_mul _ (co_dg u) dA, evn_mul _ (co_dg v) hf, zA j hj, El.mul_zero, El.zero_add, hfv j hj] at h1
    exact h1
  have hvne : v ≠ [] := by
    rintro rfl
    have e1 : co m = co u * co A := by rw [P.eq, co_nil, Ps.zero_mul, Ps.add_zero]
    have e2 : tln u = 0 := by
      by_cases hu : tln u = 0
      · exact hu
      · exfalso
        have h1 := tln_mul e1 hu (by omega)
        have := tln_le m
        omega
    obtain ⟨p, q, -, -, h1⟩ := P.cop
    rw [co_zero_of_tln e2, co_nil, Ps.mul_zero, Ps.mul_zero, Ps.add_zero] at h1
    exact El.one_ne (congrArg (fun f : Ps n => f.c 0) h1).symm
  refine ⟨?_, hvne⟩
  generalize hW : vps ((offs g X Y N).map X) = W
  have lW : ((offs g X Y N).map X).length = e := by rw [List.length_map, he]
  have dW : Dg W (e + 1) := by rw [← hW, ← lW]; exact vps_dg _
  have dvg : Dg (co v * co g) (v.length + k) := ((co_dg v).mul hg).mono (by omega)
  have dvg2 : Dg (co v * co g) (N - e) := ((co_dg v).mul hg).mono (by omega)
  have dF : Dg (co m + co v * co g) (N - e) := ((co_dg m).mono (by omega)).add dvg2
  have dP : Dg (W * (co m + co v * co g)) N := (dW.mul dF).mono (by omega)
  have hP : W * (co m + co v * co g) = 0 := zero_of X 0 N dP (fun a b ha hb e => hX a b ha hb (by simpa using e)) fun j hj => by
    rw [Nat.zero_add]
    rw [← evn_more2 (X j) dP (show N ≤ e + 1 + (N - e) by omega), evn_mul _ dW dF]
    by_cases hj2 : evl g (X j) = Y j
    · have h2 : evn (co m + co v * co g) (X j) (N - e) = 0 := by
        rw [evn_add, evn_more2 _ (co_dg m) (by omega), hm j hj, ← evn_more2 (X j) dvg2 (show N - e ≤ N + N + 1 + v.length + k by omega), evn_more2 _ dvg (by omega), evn_mul _ (co_dg v) hg]
        rw [evl_co, ← evn_eq (e := g.length) hg (co_dg g)] at hj2
        rw [hj2, El.add_self]
      rw [h2, El.mul_zero]
    · have h2 := (ev_vps_zero (X j) ((offs g X Y N).map X)).2 (List.mem_map.2 ⟨j, offs_mem.2 ⟨hj, hj2⟩, rfl⟩)
      rw [lW, hW] at h2
      rw [h2, El.zero_mul]
  have hWl : co (ofc (e + 1) W) = W := ofc_co dW
  have hFl : co (ofc (N - e) (co m + co v * co g)) = co m + co v * co g := ofc_co dF
  have h3 := mul_eq_zero' (w := ofc (e + 1) W) (p := ofc (N - e) (co m + co v * co g)) (by rw [vps_tln ((offs g X Y N).map X) (by rw [hWl, hW])]; omega) (by rw [hWl, hFl, hP])
  rw [hFl] at h3
  exact Ps.eq_of_add h3
/-- What divides with no remainder. -/
theorem gao_div {m v g q rest : List (El n)} (hm : co m = co v * co g) (hg : tr g = g) (tq : tr q = q) (tm : tr rest = rest) (he : co m = co q * co v + co rest) (hl : rest.length < tln v) : q = g ∧ rest = [] :=
  div_uniq tq tm hg tr_nil he (by rw [hm, co_nil, Ps.add_zero, Ps.mul_comm]) hl (by simp; omega)
theorem filter3 {α : Type} (p q : α → Bool) : ∀ l : List α, l.length ≤ (l.filter fun x => p x && q x).length + (l.filter fun x => !p x).length + (l.filter fun x => !q x).length
  | [] => by simp
  | a :: l => by
    have ih := filter3 p q l
    simp only [List.filter_cons]
    cases p a <;> cases q a <;> simp <;> omega
/-- At most one short polynomial is near. -/
theorem near_uniq {N k : Nat} {X Y : Nat → El n} (hX : ∀ a b, a < N → b < N → X a = X b → a = b) {g g' : List (El n)} (hk : k ≤ N) (tg : tr g = g) (tg' : tr g' = g') (hg : g.length ≤ k) (hg' : g'.length ≤ k)
    (h : (offs g X Y N).length + (offs g' X Y N).length + k ≤ N) : g = g' := by
  obtain ⟨L, hL⟩ : ∃ L, L = (List.range N).filter fun j => decide (evl g (X j) = Y j) && decide (evl g' (X j) = Y j) := ⟨_, rfl⟩
  have hmem : ∀ j, j ∈ L → j < N ∧ evl g (X j) = Y j ∧ evl g' (X j) = Y j := fun j hj => by
    rw [hL, List.mem_filter, List.mem_range] at hj
    simpa using hj
  have hlen : k ≤ L.length := by
    have h1 := filter3 (fun j => decide (evl g (X j) = Y j)) (fun j => decide (evl g' (X j) = Y j)) (List.range N)
    rw [List.length_range, ← hL] at h1
    unfold offs at h
    omega
  have hnd : (L.map X).Nodup := by
    have h0 : L.Pairwise (· < ·) := by rw [hL]; exact List.Pairwise.filter _ List.pairwise_lt_range
    unfold List.Nodup
    rw [List.pairwise_map]
    refine List.Pairwise.imp_of_mem (R := (· < ·)) (fun {a b} ha hb hab e => ?_) h0
    have := hX a b (hmem a ha).1 (hmem b hb).1 e
    omega
  have dS : Dg (co g + co g') k := ((co_dg g).mono hg).add ((co_dg g').mono hg')
  have h4 : co (ofc k (co g + co g')) = co g + co g' := ofc_co dS
  have h5 := roots_zero (L.map X) (ofc k (co g + co g')) hnd (by rw [ofc_len, List.length_map]; exact hlen) fun z hz => by
    obtain ⟨j, hj, rfl⟩ := List.mem_map.1 hz
    obtain ⟨-, h1, h2⟩ := hmem j hj
    rw [evl_co, h4, ofc_len, evn_add, evn_more2 _ (co_dg g) hg, evn_more2 _ (co_dg g') hg', ← evl_co, ← evl_co, h1, h2, El.add_self]
  rw [h4] at h5
  exact tr_inj tg tg' (Ps.eq_of_add h5)
end
end Go.Fw

set_option linter.unusedVariables false
set_option linter.unusedSimpArgs false
set_option maxRecDepth 100000
set_option maxHeartbeats 1000000
namespace Go.Proofs.Ytbaljbadlfopgaa.Fw
open Go Go.Fw Go.Proofs
attribute [local irreducible] stepI
def c_mend_decoder_near : C := .seq (.ops [⟨0,some 4,none,.mov (.c (.slice none 0 0)),[]⟩,⟨1,some 5,none,.mov (.c (.slice none 0 0)),[]⟩,⟨2,some 6,none,.mov (.c (.bool false)),[]⟩]) (.seq (.dops [⟨0,some 17,none,.mov (.t 0),[]⟩,⟨1,some 18,none,.nil (.t 17),[]⟩,⟨2,some 19,none,.fad 0 (.t 18),[]⟩,⟨3,some 20,none,.ld (.t 19),[]⟩,⟨4,some 21,none,.mov (.t 0),[]⟩,⟨5,some 22,none,.nil (.t 21),[]⟩,⟨6,some 23,none,.fad 2 (.t 22),[]⟩,⟨7,some 24,none,.ld (.t 23),[]⟩,⟨8,some 25,none,.mov (.t 1),[]⟩,⟨9,some 26,none,.call (.c (.func (.func 56) #[] #[])) [.t 20,.t 24,.t 25],[]⟩,⟨10,some 16,none,.mov (.t 26),[]⟩,⟨11,some 27,none,.ext (.t 16) 0,[]⟩,⟨12,some 28,none,.ext (.t 16) 1,[]⟩,⟨13,some 4,none,.mov (.t 27),[]⟩]) (.seq (.seq (.ops [⟨0,some 29,none,.mov (.t 4),[]⟩,⟨1,some 30,none,.len (.t 29),[]⟩,⟨2,some 31,none,.mov (.t 0),[]⟩,⟨3,some 32,none,.nil (.t 31),[]⟩,⟨4,some 33,none,.fad 1 (.t 32),[]⟩,⟨5,some 34,none,.ld (.t 33),[]⟩,⟨6,some 35,none,.bin .leq (.t 30) (.t 34),[]⟩]) (.ite (.t 35) (.seq (.ops [⟨0,some 36,none,.mov (.t 4),[]⟩,⟨1,some 4,none,.mov (.t 36),[]⟩,⟨2,some 5,none,.mov (.c (.slice none 0 0)),[]⟩,⟨3,some 6,none,.mov (.c (.bool true)),[]⟩]) .ret) .skip)) (.seq (.ops [⟨0,some 37,none,.mov (.t 0),[]⟩,⟨1,some 38,none,.nil (.t 37),[]⟩,⟨2,some 39,none,.fad 2 (.t 38),[]⟩,⟨3,some 40,none,.ld (.t 39),[]⟩,⟨4,some 41,none,.len (.t 40),[]⟩,⟨5,some 7,none,.mov (.t 41),[]⟩]) (.seq (.dops [⟨0,some 43,none,.mov (.t 0),[]⟩,⟨1,some 44,none,.nil (.t 43),[]⟩,⟨2,some 45,none,.fad 0 (.t 44),[]⟩,⟨3,some 46,none,.ld (.t 45),[]⟩,⟨4,some 47,none,.mov (.t 0),[]⟩,⟨5,some 48,none,.nil (.t 47),[]⟩,⟨6,some 49,none,.fad 3 (.t 48),[]⟩,⟨7,some 50,none,.ld (.t 49),[]⟩,⟨8,some 51,none,.mov (.t 4),[]⟩,⟨9,some 52,none,.mov (.t 7),[]⟩,⟨10,some 53,none,.mov (.t 0),[]⟩,⟨11,some 54,none,.nil (.t 53),[]⟩,⟨12,some 55,none,.fad 1 (.t 54),[]⟩,⟨13,some 56,none,.ld (.t 55),[]⟩,⟨14,some 57,none,.bin .add (.t 52) (.t 56),[]⟩,⟨15,some 58,none,.bin .add (.t 57) (.c (.int .i64 1)),[]⟩,⟨16,some 59,none,.bin .quo (.t 58) (.c (.int .i64 2)),[]⟩,⟨17,some 60,none,.call (.c (.func (.func 90) #[] #[])) [.t 46,.t 50,.t 51,.t 59],[]⟩,⟨18,some 42,none,.mov (.t 60),[]⟩,⟨19,some 61,none,.ext (.t 42) 0,[]⟩,⟨20,some 62,none,.ext (.t 42) 1,[]⟩,⟨21,some 63,none,.ext (.t 42) 2,[]⟩,⟨22,some 64,none,.ext (.t 42) 3,[]⟩,⟨23,some 8,none,.mov (.t 61),[]⟩,⟨24,some 9,none,.mov (.t 62),[]⟩,⟨25,some 10,none,.mov (.t 63),[]⟩,⟨26,some 11,none,.mov (.t 64),[]⟩]) (.seq (.ops [⟨0,some 66,none,.mov (.t 0),[]⟩,⟨1,some 67,none,.nil (.t 66),[]⟩,⟨2,some 68,none,.fad 0 (.t 67),[]⟩,⟨3,some 69,none,.ld (.t 68),[]⟩,⟨4,some 70,none,.mov (.t 8),[]⟩,⟨5,some 71,none,.mov (.t 10),[]⟩,⟨6,some 72,none,.call (.c (.func (.func 91) #[] #[])) [.t 69,.t 70,.t 71],[]⟩,⟨7,some 65,none,.mov (.t 72),[]⟩,⟨8,some 73,none,.ext (.t 65) 0,[]⟩,⟨9,some 74,none,.ext (.t 65) 1,[]⟩,⟨10,some 75,none,.ext (.t 65) 2,[]⟩,⟨11,some 4,none,.mov (.t 73),[]⟩,⟨12,some 12,none,.mov (.t 74),[]⟩,⟨13,some 13,none,.mov (.t 75),[]⟩]) (.seq (.seq (.ops [⟨0,some 76,none,.mov (.t 13),[]⟩,⟨1,some 77,none,.bin .neq (.t 76) (.c (.int .i64 0)),[]⟩,⟨2,some 78,none,.mov (.t 77),[]⟩,⟨3,some 79,(some (78,false)),.mov (.t 12),[]⟩,⟨4,some 80,(some (78,false)),.len (.t 79),[]⟩,⟨5,some 81,(some (78,false)),.bin .gtr (.t 80) (.c (.int .i64 0)),[]⟩,⟨6,some 82,none,.pick (.t 78) (.c (.bool true)) (.t 81),[]⟩,⟨7,some 83,none,.mov (.t 82),[]⟩,⟨8,some 84,(some (83,false)),.mov (.t 4),[]⟩,⟨9,some 85,(some (83,false)),.len (.t 84),[]⟩,⟨10,some 86,(some (83,false)),.mov (.t 0),[]⟩,⟨11,some 87,(some (83,false)),.nil (.t 86),[]⟩,⟨12,some 88,(some (83,false)),.fad 1 (.t 87),[]⟩,⟨13,some 89,(some (83,false)),.ld (.t 88),[]⟩,⟨14,some 90,(some (83,false)),.bin .gtr (.t 85) (.t 89),[]⟩,⟨15,some 91,none,.pick (.t 83) (.c (.bool true)) (.t 90),[]⟩]) (.ite (.t 91) (.seq (.ops [⟨0,some 4,none,.mov (.c (.slice none 0 0)),[]⟩,⟨1,some 5,none,.mov (.c (.slice none 0 0)),[]⟩,⟨2,some 6,none,.mov (.c (.bool false)),[]⟩]) .ret) .skip)) (.seq (.seq (.ops [⟨0,some 92,none,.mov (.t 0),[]⟩,⟨1,some 93,none,.nil (.t 92),[]⟩,⟨2,some 94,none,.fad 2 (.t 93),[]⟩,⟨3,some 95,none,.ld (.t 94),[]⟩,⟨4,some 96,none,.len (.t 95),[]⟩,⟨5,some 97,none,.mov (.c (.int .i64 0)),[]⟩]) (.block 0 (.loop (.seq (.ops [⟨0,some 98,none,.bin .lss (.t 97) (.t 96),[]⟩]) (.seq (.ite (.t 98) .skip (.exit 0)) (.seq (.block 1 (.seq (.ops [⟨0,some 99,none,.mov (.t 97),[]⟩,⟨1,some 100,none,.ixs 1 (.t 95) (.t 97),[]⟩,⟨2,some 101,none,.ld (.t 100),[]⟩,⟨3,some 14,none,.mov (.t 99),[]⟩,⟨4,some 15,none,.mov (.t 101),[]⟩]) (.seq (.dops [⟨0,some 102,none,.mov (.t 0),[]⟩,⟨1,some 103,none,.nil (.t 102),[]⟩,⟨2,some 104,none,.fad 0 (.t 103),[]⟩,⟨3,some 105,none,.ld (.t 104),[]⟩,⟨4,some 106,none,.mov (.t 4),[]⟩,⟨5,some 107,none,.mov (.t 15),[]⟩,⟨6,some 108,none,.call (.c (.func (.func 59) #[] #[])) [.t 105,.t 106,.t 107],[]⟩,⟨7,some 109,none,.mov (.t 1),[]⟩,⟨8,some 110,none,.mov (.t 14),[]⟩,⟨9,some 111,none,.ixs 1 (.t 109) (.t 110),[]⟩,⟨10,some 112,none,.ld (.t 111),[6]⟩,⟨11,some 113,none,.bin .neq (.t 108) (.t 112),[]⟩]) (.ite (.t 113) (.ops [⟨0,some 114,none,.mov (.t 5),[]⟩,⟨1,some 115,none,.mov (.t 14),[]⟩,⟨2,some 116,none,.bsl 3 1 [.int .i64 0] [(0,(1,.t 115))],[]⟩,⟨3,some 117,none,.app 3 8 [.int .i64 0] (.t 114) (.t 116),[]⟩,⟨4,some 5,none,.mov (.t 117),[]⟩]) .skip)))) (.ops [⟨0,some 118,none,.bin .add (.t 97) (.c (.int .i64 1)),[]⟩,⟨1,some 97,none,.mov (.t 118),[]⟩]))))))) (.seq (.dops [⟨0,some 119,none,.mov (.t 4),[]⟩,⟨1,some 120,none,.mov (.t 5),[]⟩,⟨2,some 121,none,.mov (.t 5),[]⟩,⟨3,some 122,none,.len (.t 121),[]⟩,⟨4,some 123,none,.mov (.t 7),[]⟩,⟨5,some 124,none,.mov (.t 0),[]⟩,⟨6,some 125,none,.nil (.t 124),[]⟩,⟨7,some 126,none,.fad 1 (.t 125),[]⟩,⟨8,some 127,none,.ld (.t 126),[]⟩,⟨9,some 128,none,.bin .sub (.t 123) (.t 127),[]⟩,⟨10,some 129,none,.bin .quo (.t 128) (.c (.int .i64 2)),[]⟩,⟨11,some 130,none,.bin .leq (.t 122) (.t 129),[]⟩,⟨12,some 4,none,.mov (.t 119),[]⟩,⟨13,some 5,none,.mov (.t 120),[]⟩,⟨14,some 6,none,.mov (.t 130),[]⟩]) .ret))))))))
attribute [irreducible] c_mend_decoder_near
theorem run_mend_decoder_near {args : List Value} {w : World} {K : Value → World → Prop} (hn : args.length ≤ 131) (h : WP Try.prog c_mend_decoder_near (endQ [.t 4, .t 5, .t 6] K) (initT args) w) : CallV Try.prog 58 args w K :=
  call_of follows Try.func58 (by kernel_rfl) (by kernel_rfl) hn h
end Go.Proofs.Ytbaljbadlfopgaa.Fw
namespace Go.Proofs.Ytbaljbadlfopgaa.Fw
open Go Go.Fw
/-- A decoder for these points. -/
def Deco (w : World) (p : Value) (k : Nat) (xs : List (El 8)) : Prop := ∃ b r sx sa A, p = .pointer (some ⟨b, 0, none⟩) ∧ Row w b [r, .int .i64 (k : Int), sx, sa] ∧ Ring_b w r ∧ Sl w sx xs ∧ Sl w sa A ∧ co A = vps xs ∧ A.length = xs.length + 1
theorem Deco.up {w w' : World} {p : Value} {k : Nat} {xs : List (El 8)} (h : Deco w p k xs) (hB : RowKit.Below w.heap.size w w') : Deco w' p k xs := by
  obtain ⟨b, r, sx, sa, A, h1, h2, h3, h4, h5, h6⟩ := h
  exact ⟨b, r, sx, sa, A, h1, h2.up hB, h3.up hB, h4.up hB, h5.up hB, h6⟩
def nth (l : List (El 8)) (j : Nat) : El 8 := l.getD j 0
theorem nth_get {l : List (El 8)} {j : Nat} (h : j < l.length) : nth l j = l[j] := by unfold nth; rw [List.getD_eq_getElem?_getD, List.getElem?_eq_getElem h]; rfl
theorem map_nth (l : List (El 8)) : (List.range l.length).map (nth l) = l := List.ext_getElem (by simp) fun i h1 h2 => by rw [List.getElem_map, List.getElem_range, nth_get]
theorem mend_decoder_near_spec (w : World) (p s : Value) (k : Nat) (xs ys : List (El 8)) (hD : Deco w p k xs) (hs : Sl w s ys) (hk1 : 1 ≤ k) (hk : k ≤ xs.length) (hn : xs.length ≤ 256) (hy : ys.length = xs.length) (hX : ∀ a b, a < xs.length → b < xs.length → nth xs a = nth xs b → a = b) :
    CallV Try.prog 58 [p, s] w fun v w' => RowKit.Below w.heap.size w w' ∧
      ((∃ sf so g, v = .tuple #[sf, so, .bool true] ∧ Ow w.heap.size w' sf g ∧ Ow w.heap.size w' so ((offs g (nth xs) (nth ys) xs.length).map fun (n : Nat) => (n : Int)) ∧ tr g = g ∧ g.length ≤ k ∧ (offs g (nth xs) (nth ys) xs.length).length ≤ (xs.length - k) / 2) ∨
       (∃ sf so, v = .tuple #[sf, so, .bool false] ∧ scal sf = true ∧ ∀ g, tr g = g → g.length ≤ k → (xs.length - k) / 2 < (offs g (nth xs) (nth ys) xs.length).length)) := by
  obtain ⟨bo, r, sx, sa, A, rfl, hro, hr, hsx, hsa, hA, hAl⟩ := hD
  refine run_mend_decoder_near (by simp) ?_
  simp only [c_mend_decoder_near, WS, ↓reduceIte, Nat.reduceEqDiff, reduceCtorEq]
  refine WP_dops ?_
  have B := bel_drew w
  have hd := hro.drew
  have hr := hr.up B
  have hsx := hsx.up B
  have hsa := hsa.up B
  have hs := hs.up B
  simp (maxSteps := 1000000) (disch := omega) only [ES, List.mem_cons, List.not_mem_nil, implies_true, forall_const, WS, ↓reduceIte, Nat.reduceEqDiff, reduceCtorEq, AS, hd.Eld (show 0 < _ by simp), hd.Eld (show 1 < _ by simp), hd.Eld (show 2 < _ by simp), hd.Eld (show 3 < _ by simp)]
  refine E_call0 ((polys_Ring_b_Interpolate_spec w.drew r sx s xs ys hr hsx hs (by omega) (by omega)).mono ?_)
  rintro vv w1 ⟨hB, hres⟩
  have hX' : ∀ a b, a < xs.length → b < xs.length → xs.getD a 0 = xs.getD b 0 → a = b := hX
  obtain ⟨sf, f, rfl, of, tf, cf, lf⟩ : ∃ sf f, vv = .tuple #[sf, .int .i64 0] ∧ Ow w.drew.heap.size w1 sf f ∧ tr f = f ∧ co f = nw (nth xs) (nth ys) 0 xs.length ∧ f.length ≤ xs.length := by
    rcases hres with ⟨-, -, -, -, sf, mf, h1, h2, h3, h4, h5⟩ | ⟨-, -, h9, -⟩ | ⟨-, -, -, h9, -⟩ | ⟨h9, -⟩
    · exact ⟨sf, mf, h1, h2, h3, h4, h5⟩
    · exact absurd hy h9
    · exact absurd hX' h9
    · exact absurd ⟨by omega, by omega⟩ h9
  clear hres hX'
  have of := of.mono B.size
  have hro := hd.up hB
  have hr := hr.up hB
  have hsx := hsx.up hB
  have hsa := hsa.up hB
  have hs := hs.up hB
  have B := B.trans (hB.mono B.size)
  clear hB
  clear hd
  have fdg : Dg (co f) xs.length := (co_dg f).mono lf
  have fev : ∀ j, j < xs.length → evn (co f) (nth xs j) xs.length = nth ys j := fun j hj => by
    have := nw_ev (nth xs) (nth ys) xs.length hX xs.length 0 (by omega) j hj
    rw [Nat.zero_add] at this
    rw [cf]; exact this
  simp (maxSteps := 1000000) (disch := omega) only [ES, List.mem_cons, List.not_mem_nil, implies_true, forall_const, WS, ↓reduceIte, Nat.reduceEqDiff, reduceCtorEq, AS]
  simp (maxSteps := 1000000) (disch := omega) only [WS, ↓reduceIte, Nat.reduceEqDiff, reduceCtorEq, AS, of.sl.Xlen, hro.Xld (show 1 < _ by simp)]
  by_cases hfk : f.length ≤ k
  · have hoff : offs f (nth xs) (nth ys) xs.length = [] := by
      refine List.eq_nil_iff_forall_not_mem.2 fun j hj => ?_
      obtain ⟨h1, h2⟩ := offs_mem.1 hj
      refine h2 ?_
      rw [evl_co, evn_eq (co_dg f) fdg]
      exact fev j h1
    simp (maxSteps := 1000000) (disch := omega) only [WS, ↓reduceIte, Nat.reduceEqDiff, reduceCtorEq, AS]
    exact ⟨B, Or.inl ⟨sf, .slice none 0 0, f, rfl, of, by rw [hoff]; exact Or.inl ⟨rfl, rfl⟩, tf, hfk, by rw [hoff]; exact Nat.zero_le _⟩⟩
  have hkn : k < xs.length := by omega
  have q1 : ((xs.length + k + 1 : Nat) : Int).tdiv 2 = (((xs.length + k + 1) / 2 : Nat) : Int) := (Int.ofNat_tdiv _ 2).symm
  have q2 : IntKind.i64.wrap (((xs.length + k + 1) / 2 : Nat) : Int) = (((xs.length + k + 1) / 2 : Nat) : Int) := w_nat _ (by omega)
  have hn2 : ((2 : Int) ≠ 0) = True := eq_true (by decide)
  simp (maxSteps := 1000000) (disch := omega) only [WS, ↓reduceIte, Nat.reduceEqDiff, reduceCtorEq, AS, hro.Xld (show 2 < _ by simp), hsx.Xlen]
  refine WP_dops ?_
  have B2 := bel_drew w1
  have hro := hro.up B2
  have hr := hr.up B2
  have hsx := hsx.up B2
  have hsa := hsa.up B2
  have hs := hs.up B2
  have of := of.up B2
  have B := B.trans (B2.mono B.size)
  clear B2
  have of' := of.sl
  simp (maxSteps := 1000000) (disch := omega) only [ES, List.mem_cons, List.not_mem_nil, implies_true, forall_const, WS, ↓reduceIte, Nat.reduceEqDiff, reduceCtorEq, AS, hro.Eld (show 0 < _ by simp), hro.Eld (show 1 < _ by simp), hro.Eld (show 3 < _ by simp), E_quo, hn2, q1, q2]
  refine E_call0 ((polys_Ring_b_Partial_spec w1.drew r sa sf A f ((xs.length + k + 1) / 2 : Nat) hr hsa of' (by omega) (by omega)).mono ?_)
  rintro vv w2 ⟨hB, hres⟩
  obtain ⟨sm, su, sv, m, u, v, rfl, om, ov, hEu⟩ : ∃ sm su sv m u v, vv = .tuple #[sm, su, sv, .int .i64 0] ∧ Ow w1.drew.heap.size w2 sm m ∧ Ow w1.drew.heap.size w2 sv v ∧ Eu ((xs.length + k + 1) / 2) (tr A) (tr f) [1] [] [] [1] m u v := by
    rcases hres with ⟨-, -, -, sm, su, sv, m, u, v, h1, h2, -, h3, h4⟩ | ⟨-, -, h9, -⟩ | ⟨h9, -⟩
    · exact ⟨sm, su, sv, m, u, v, h1, h2, h3, by rw [Int.toNat_natCast] at h4; exact h4⟩
    · omega
    · exact absurd ⟨by omega, by omega⟩ h9
  clear hres
  have hP := hEu.whole
  have om := om.sl
  have ov := ov.sl
  have hro := hro.up hB
  have hr := hr.up hB
  have hsx := hsx.up hB
  have hsa := hsa.up hB
  have hs := hs.up hB
  have B := B.trans (hB.mono B.size)
  clear hB
  clear of of'
  have hgao : ∀ g, tr g = g → g.length ≤ k → (offs g (nth xs) (nth ys) xs.length).length ≤ (xs.length - k) / 2 → co m = co v * co g ∧ v ≠ [] := fun g tg hg hn => gao hX (by rw [map_nth, hA]) fdg fev hEu hkn rfl ((co_dg g).mono hg) hn
  have hml := hP.lm
  have hvl := (hEu.lens).2.2.2
  simp (maxSteps := 1000000) (disch := omega) only [ES, List.mem_cons, List.not_mem_nil, implies_true, forall_const, WS, ↓reduceIte, Nat.reduceEqDiff, reduceCtorEq, AS]
  simp (maxSteps := 1000000) (disch := omega) only [WS, ↓reduceIte, Nat.reduceEqDiff, reduceCtorEq, AS, hro.Xld (show 0 < _ by simp)]
  have hvb : v.length ≤ 1024 := by
    have h1 := (hEu.lens).2.1
    have h3 := tln_le A
    omega
  have hsz2 := B.size
  refine X_call0 ((polys_Ring_b_DivMod_spec w2 r sm sv m v hr om ov (by omega) (by omega)).mono ?_)
  rintro vv w3 ⟨hB, hres⟩
  have hro := hro.up hB
  have hr := hr.up hB
  have hsx := hsx.up hB
  have hsa := hsa.up hB
  have hs := hs.up hB
  have B := B.trans (hB.mono B.size)
  clear hB
  rcases hres with ⟨-, -, -, sq, sr, g, rest, rfl, og, orr, tg, trr, hdm, hrl, -⟩ | ⟨-, -, hv0, rfl⟩ | ⟨h9, -⟩
  rotate_left
  · simp (maxSteps := 1000000) (disch := omega) only [WS, ↓reduceIte, Nat.reduceEqDiff, reduceCtorEq, AS, show decide ((40 : Int) ≠ 0) = true from rfl]
    refine ⟨B, Or.inr ⟨_, _, rfl, rfl, fun g tg hg => Nat.lt_of_not_le fun hn => ?_⟩⟩
    obtain ⟨-, h2⟩ := hgao g tg hg hn
    have := len_tr hP.tv
    exact h2 (List.length_eq_zero_iff.1 (by omega))
  · exact absurd ⟨by omega, by omega⟩ h9
  have og := og.mono hsz2
  have orr := orr.sl
  have hnear : ∀ g', tr g' = g' → g'.length ≤ k → (offs g' (nth xs) (nth ys) xs.length).length ≤ (xs.length - k) / 2 → g = g' ∧ rest = [] := fun g' tg' hg' hn => by
    obtain ⟨h1, -⟩ := hgao g' tg' hg' hn
    exact gao_div h1 tg' tg trr hdm hrl
  by_cases hrest : 0 < rest.length
  · simp (maxSteps := 1000000) (disch := omega) only [WS, ↓reduceIte, Nat.reduceEqDiff, reduceCtorEq, AS, show decide ((0 : Int) ≠ 0) = false from rfl, orr.Xlen]
    refine ⟨B, Or.inr ⟨_, _, rfl, rfl, fun g' tg' hg' => Nat.lt_of_not_le fun hn => ?_⟩⟩
    have := (hnear g' tg' hg' hn).2
    rw [this] at hrest
    exact absurd hrest (by simp)
  by_cases hgk : k < g.length
  · simp (maxSteps := 1000000) (disch := omega) only [WS, ↓reduceIte, Nat.reduceEqDiff, reduceCtorEq, AS, show decide ((0 : Int) ≠ 0) = false from rfl, orr.Xlen, og.sl.Xlen, hro.Xld (show 1 < _ by simp)]
    refine ⟨B, Or.inr ⟨_, _, rfl, rfl, fun g' tg' hg' => Nat.lt_of_not_le fun hn => ?_⟩⟩
    have := (hnear g' tg' hg' hn).1
    rw [← this] at hg'
    omega
  simp (maxSteps := 1000000) (disch := omega) only [WS, ↓reduceIte, Nat.reduceEqDiff, reduceCtorEq, AS, show decide ((0 : Int) ≠ 0) = false from rfl, orr.Xlen, og.sl.Xlen, hro.Xld (show 1 < _ by simp), hro.Xld (show 2 < _ by simp), hsx.Xlen]
  have q3 : ((xs.length - k : Nat) : Int).tdiv 2 = (((xs.length - k) / 2 : Nat) : Int) := (Int.ofNat_tdiv _ 2).symm
  have q4 : IntKind.i64.wrap (((xs.length - k) / 2 : Nat) : Int) = (((xs.length - k) / 2 : Nat) : Int) := w_nat _ (by omega)
  refine loop_of (fun t w' => t 0 = .pointer (some ⟨bo, 0, none⟩) ∧ t 1 = s ∧ t 4 = sq ∧ t 7 = .int .i64 (xs.length : Int) ∧ t 95 = sx ∧ t 96 = .int .i64 (xs.length : Int) ∧ RowKit.Below w3.heap.size w3 w' ∧ ∃ (i : Nat) (so : Value), t 97 = .int .i64 (i : Int) ∧ i ≤ xs.length ∧ t 5 = so ∧ Ow w3.heap.size w' so ((offs g (nth xs) (nth ys) i).map fun (n : Nat) => (n : Int))) (fun t _ => xs.length - (toI (t 97)).toNat)
    ⟨by simp only [WS, ↓reduceIte, Nat.reduceEqDiff, reduceCtorEq], by simp only [WS, ↓reduceIte, Nat.reduceEqDiff, reduceCtorEq], by simp only [WS, ↓reduceIte, Nat.reduceEqDiff, reduceCtorEq], by simp only [WS, ↓reduceIte, Nat.reduceEqDiff, reduceCtorEq], by simp only [WS, ↓reduceIte, Nat.reduceEqDiff, reduceCtorEq], by simp only [WS, ↓reduceIte, Nat.reduceEqDiff, reduceCtorEq], RowKit.Below.refl _ _, 0, .slice none 0 0, by simp only [WS, ↓reduceIte, Nat.reduceEqDiff, reduceCtorEq]; rfl, by omega, by simp only [WS, ↓reduceIte, Nat.reduceEqDiff, reduceCtorEq], Or.inl ⟨rfl, rfl⟩⟩ ?_
  rintro t w4 ⟨t0, t1, t4, t7, t95, t96, C, i, so, t97, hi, t5, oo⟩
  have holen : (offs g (nth xs) (nth ys) i).length ≤ i := by
    unfold offs
    have := List.length_filter_le (fun j => !decide (evl g (nth xs j) = nth ys j)) (List.range i)
    rwa [List.length_range] at this
  have hom : ((offs g (nth xs) (nth ys) i).map fun (n : Nat) => (n : Int)).length = (offs g (nth xs) (nth ys) i).length := List.length_map ..
  by_cases hin : i < xs.length
  · have iy : i < ys.length := by omega
    have hsx4 := hsx.up C
    simp (maxSteps := 1000000) (disch := omega) only [WS, ↓reduceIte, Nat.reduceEqDiff, reduceCtorEq, AS, t0, t1, t4, t5, t7, t95, t96, t97, hsx4.Xix hin, hsx4.Xld hin, cell_e8]
    refine WP_dops ?_
    have B2 := bel_drew w4
    have C2 := C.trans (B2.mono C.size)
    have oo2 := oo.up B2
    have hro4 := hro.up C2
    have hr4 := hr.up C2
    have og4 := (og.up C2).sl
    have hs4 := hs.up C2
    have see : Fw.sees Try.prog (.ld (.c (elP s i))) w4.drew (.int .u8 (ys[i].v.toNat : Int)) = True := hs4.sees iy Try.prog
    simp (maxSteps := 1000000) (disch := omega) only [ES, List.mem_cons, List.not_mem_nil, implies_true, forall_const, WS, ↓reduceIte, Nat.reduceEqDiff, reduceCtorEq, AS, t0, t1, t4, t5, t7, t95, t96, t97, hro4.Eld (show 0 < _ by simp)]
    refine E_call0 ((polys_Ring_b_Eval_spec w4.drew r sq g xs[i] hr4 og4 (by omega)).mono ?_)
    rintro _ w5 ⟨rfl, hB⟩
    have hs5 := hs4.up hB
    have oo3 := oo2.up hB
    have C3 := C2.trans (hB.mono C2.size)
    have hoff : offs g (nth xs) (nth ys) (i + 1) = offs g (nth xs) (nth ys) i ++ if evl g (nth xs i) = nth ys i then [] else [i] := by
      unfold offs
      rw [List.range_succ, List.filter_append]
      congr 1
      by_cases h : evl g (nth xs i) = nth ys i <;> simp [h]
    rw [nth_get hin, nth_get iy] at hoff
    by_cases heq : evl g xs[i] = ys[i]
    · rw [if_pos heq, List.append_nil] at hoff
      simp (maxSteps := 1000000) (disch := omega) only [ES, List.mem_cons, List.not_mem_nil, implies_true, forall_const, WS, ↓reduceIte, Nat.reduceEqDiff, reduceCtorEq, AS, t0, t1, t4, t5, t7, t95, t96, t97, hs5.Eix iy, hs5.Eld iy, cell_e8, see, heq, ne_eq, not_true_eq_false, decide_false]
      exact ⟨⟨C3, i + 1, so, rfl, by omega, rfl, by rw [hoff]; exact oo3⟩, by omega⟩
    · rw [if_neg heq] at hoff
      have hne : ((evl g xs[i]).v.toNat : Int) ≠ (ys[i].v.toNat : Int) := fun e => heq (El.ext (BitVec.eq_of_toNat_eq (by omega)))
      simp (maxSteps := 1000000) (disch := omega) only [ES, List.mem_cons, List.not_mem_nil, implies_true, forall_const, WS, ↓reduceIte, Nat.reduceEqDiff, reduceCtorEq, AS, t0, t1, t4, t5, t7, t95, t96, t97, hs5.Eix iy, hs5.Eld iy, cell_e8, see]
      refine X_bsl (zs := [(i : Int)]) (by rfl) (by rfl) fun e0 w6 oe hB => ?_
      have oe := oe.sl
      have oo4 := oo3.up hB
      have C4 := C3.trans (hB.mono C3.size)
      simp (maxSteps := 1000000) (disch := omega) only [WS, ↓reduceIte, Nat.reduceEqDiff, reduceCtorEq, AS, t0, t1, t4, t5, t7, t95, t96, t97]
      refine Ow.Xapp oo4 oe C4.size (by rw [hom]; simp only [List.length_singleton, maxBytes]; omega) (by rw [hom]; simp only [List.length_singleton]; omega) fun e1 w7 oo5 hg _ => ?_
      have C5 := Below.app C4 C4.size hg fun b hb => (oo4.blk b hb).1
      simp (maxSteps := 1000000) (disch := omega) only [WS, ↓reduceIte, Nat.reduceEqDiff, reduceCtorEq, AS, t0, t1, t4, t5, t7, t95, t96, t97]
      exact ⟨⟨C5, i + 1, e1, rfl, by omega, rfl, by rw [hoff, List.map_append]; exact oo5⟩, by omega⟩
  · have hie : i = xs.length := by omega
    rw [hie] at oo holen hom
    simp (maxSteps := 1000000) (disch := omega) only [WS, ↓reduceIte, Nat.reduceEqDiff, reduceCtorEq, AS, t0, t1, t4, t5, t7, t95, t96, t97]
    refine WP_dops ?_
    have B2 := bel_drew w4
    have C2 := C.trans (B2.mono C.size)
    have oo2 := oo.up B2
    have hro4 := hro.up C2
    have og4 := og.up C2
    by_cases hok : (offs g (nth xs) (nth ys) xs.length).length ≤ (xs.length - k) / 2
    · simp (maxSteps := 1000000) (disch := omega) only [ES, List.mem_cons, List.not_mem_nil, implies_true, forall_const, WS, ↓reduceIte, Nat.reduceEqDiff, reduceCtorEq, AS, t0, t1, t4, t5, t7, t95, t96, t97, oo2.sl.Elen, hom, hro4.Eld (show 1 < _ by simp), E_quo, hn2, q3, q4]
      exact ⟨B.trans (C2.mono B.size), Or.inl ⟨sq, so, g, rfl, og4, oo2.mono B.size, tg, by omega, hok⟩⟩
    · simp (maxSteps := 1000000) (disch := omega) only [ES, List.mem_cons, List.not_mem_nil, implies_true, forall_const, WS, ↓reduceIte, Nat.reduceEqDiff, reduceCtorEq, AS, t0, t1, t4, t5, t7, t95, t96, t97, oo2.sl.Elen, hom, hro4.Eld (show 1 < _ by simp), E_quo, hn2, q3, q4]
      refine ⟨B.trans (C2.mono B.size), Or.inr ⟨_, _, rfl, (by obtain ⟨_, _, e, -⟩ := og4.sl.sh; rw [e]; rfl), fun g' tg' hg' => Nat.lt_of_not_le fun hn => ?_⟩⟩
      have := (hnear g' tg' hg' hn).1
      rw [← this] at hn
      exact hok hn
end Go.Proofs.Ytbaljbadlfopgaa.Fw

set_option linter.unusedVariables false
set_option linter.unusedSimpArgs false
set_option maxRecDepth 100000
set_option maxHeartbeats 1000000
namespace Go.Proofs.Ytbaljbadlfopgaa.Fw
open Go Go.Fw Go.Proofs
attribute [local irreducible] stepI
def c_mend_newDecoder : C := .seq (.ops [⟨0,some 4,none,.mov (.c (.pointer none)),[]⟩]) (.seq (.ops [⟨0,some 6,none,.call (.c (.func (.func 55) #[] #[])) [],[]⟩,⟨1,some 7,none,.mov (.t 0),[]⟩,⟨2,some 8,none,.mov (.t 1),[]⟩,⟨3,some 9,none,.bld [.pointer none,.int .i64 0,.slice none 0 0,.slice none 0 0] [(0,(1,.t 6)),(1,(1,.t 7)),(2,(1,.t 8))],[]⟩,⟨4,some 10,none,.box 113 (.t 9),[]⟩,⟨5,some 5,none,.mov (.t 10),[]⟩]) (.seq (.ops [⟨0,some 12,none,.mov (.t 5),[]⟩,⟨1,some 13,none,.mov (.t 5),[]⟩,⟨2,some 14,none,.nil (.t 13),[]⟩,⟨3,some 15,none,.fad 0 (.t 14),[]⟩,⟨4,some 16,none,.ld (.t 15),[]⟩,⟨5,some 17,none,.mov (.t 1),[]⟩,⟨6,some 18,none,.call (.c (.func (.func 89) #[] #[])) [.t 16,.t 17],[]⟩,⟨7,some 11,none,.mov (.t 18),[]⟩,⟨8,some 19,none,.ext (.t 11) 0,[]⟩,⟨9,some 20,none,.ext (.t 11) 1,[]⟩,⟨10,some 21,none,.nil (.t 12),[]⟩,⟨11,some 22,none,.fad 3 (.t 21),[]⟩,⟨12,none,none,.st (.t 22) (.t 19),[]⟩]) (.seq (.ops [⟨0,some 23,none,.mov (.t 5),[]⟩,⟨1,some 4,none,.mov (.t 23),[]⟩]) .ret)))
attribute [irreducible] c_mend_newDecoder
theorem run_mend_newDecoder {args : List Value} {w : World} {K : Value → World → Prop} (hn : args.length ≤ 24) (h : WP Try.prog c_mend_newDecoder (endQ [.t 4] K) (initT args) w) : CallV Try.prog 57 args w K :=
  call_of follows Try.func57 (by kernel_rfl) (by kernel_rfl) hn h
end Go.Proofs.Ytbaljbadlfopgaa.Fw
namespace Go.Proofs.Ytbaljbadlfopgaa.Fw
open Go Go.Fw
theorem mend_newDecoder_spec (w : World) (k : Nat) (s : Value) (xs : List (El 8)) (hs : Sl w s xs) (hn : xs.length ≤ 256) : CallV Try.prog 57 [.int .i64 (k : Int), s] w fun v w' => Deco w' v k xs ∧ RowKit.Below w.heap.size w w' := by
  refine run_mend_newDecoder (by simp) ?_
  simp only [c_mend_newDecoder, WS, ↓reduceIte, Nat.reduceEqDiff, reduceCtorEq]
  refine X_call0 ((polys_Over8_spec w).mono ?_)
  rintro r w1 ⟨hr, hB, -⟩
  have B := hB
  have hs := hs.up hB
  clear hB
  have hf : fillL [.pointer none, .int .i64 0, .slice none 0 0, .slice none 0 0] [(0, 1, r), (1, 1, .int .i64 (k : Int)), (2, 1, s)] = some [r, .int .i64 (k : Int), s, .slice none 0 0] := by
    obtain ⟨_, _, _, rfl, -⟩ := hr
    obtain ⟨_, _, rfl, -, -⟩ := hs.sh
    rfl
  simp (maxSteps := 1000000) (disch := omega) only [WS, ↓reduceIte, Nat.reduceEqDiff, reduceCtorEq, AS, X_bld, hf]
  refine X_box fun bo w2 hro hbo hB => ?_
  have hro : Row w2 bo [r, .int .i64 (k : Int), s, .slice none 0 0] := hro
  have hlt := row_lt hro
  simp (maxSteps := 1000000) (disch := omega) only [WS, ↓reduceIte, Nat.reduceEqDiff, reduceCtorEq, AS, hro.Xld (show 0 < _ by simp)]
  refine X_call0 ((polys_Ring_b_Vanishing_spec w2 r s xs (hr.up hB) (hs.up hB) (by omega)).mono ?_)
  rintro _ w3 ⟨hB3, ⟨-, sa, A, rfl, oA, hAl, hA⟩ | ⟨h9, -⟩⟩
  rotate_left
  · exact absurd (by omega) h9
  have hro := hro.up hB3
  have C := hB.trans (hB3.mono hB.size)
  simp (maxSteps := 1000000) (disch := omega) only [WS, ↓reduceIte, Nat.reduceEqDiff, reduceCtorEq, AS]
  have hsc : scal sa = true := by
    obtain ⟨_, _, rfl, -, -⟩ := oA.sl.sh
    rfl
  refine Row.Xst (o := 3) hro (by simp) hsc fun w4 hr4 hg => ?_
  have C := Below.row C hbo hg
  have oA := oA.grown hg fun e => by
    have := (oA.blk bo e).1
    omega
  simp (maxSteps := 1000000) (disch := omega) only [WS, ↓reduceIte, Nat.reduceEqDiff, reduceCtorEq, AS]
  exact ⟨⟨bo, r, s, sa, A, rfl, hr4, hr.up C, hs.up C, oA.sl, hA, hAl⟩, B.trans (C.mono B.size)⟩
end Go.Proofs.Ytbaljbadlfopgaa.Fw
