import Derived.Test.YtcdagkcchfibjaaProg
import Derived.Test.YtcdagkcchfibjaaFwTM
import Derived.Test.YtcdagkcchfibjaaGfSM
import Derived.Test.YtcdagkcchfibjaaSS04xM
set_option linter.all false
set_option linter.unusedVariables false
set_option linter.unusedSimpArgs false
set_option maxRecDepth 100000
set_option maxHeartbeats 1000000
namespace Go.Proofs.Ytcdagkcchfibjaa.Fw
open Go Go.Fw Go.Proofs
attribute [local irreducible] stepI
def c_polys_Ring_w_Gcd : C := .seq (.ops [⟨0, (some 6), none, .mov (.c (.slice none 0 0)), []⟩, ⟨1, (some 7), none, .mov (.c (.int .i64 0)), []⟩]) (.seq (.seq (.ops [⟨0, (some 16), none, .mov (.t 0), []⟩, ⟨1, (some 17), none, .mov (.t 1), []⟩, ⟨2, (some 18), none, .mov (.t 2), []⟩, ⟨3, (some 19), none, .bsl 27 2 [.slice none 0 0] [(0, (1, .t 17)), (1, (1, .t 18))], []⟩, ⟨4, (some 20), none, .call (.c (.func (.func 78) #[] #[])) [.t 16, .t 19], []⟩, ⟨5, (some 8), none, .mov (.t 20), []⟩]) (.seq (.ops [⟨0, (some 21), none, .mov (.t 8), []⟩, ⟨1, (some 22), none, .bin .neq (.t 21) (.c (.int .i64 0)), []⟩]) (.ite (.t 22) (.seq (.ops [⟨0, (some 23), none, .mov (.t 8), []⟩, ⟨1, (some 6), none, .mov (.c (.slice none 0 0)), []⟩, ⟨2, (some 7), none, .mov (.t 23), []⟩]) .ret) .skip))) (.seq (.ops [⟨0, (some 24), none, .mov (.t 1), []⟩, ⟨1, (some 25), none, .call (.c (.func (.func 84) #[] #[])) [.t 24], []⟩, ⟨2, (some 26), none, .mov (.t 2), []⟩, ⟨3, (some 27), none, .call (.c (.func (.func 84) #[] #[])) [.t 26], []⟩, ⟨4, (some 9), none, .mov (.t 25), []⟩, ⟨5, (some 10), none, .mov (.t 27), []⟩]) (.seq (.block 0 (.loop (.seq (.seq (.ops [⟨0, (some 28), none, .mov (.t 10), []⟩, ⟨1, (some 29), none, .len (.t 28), []⟩, ⟨2, (some 30), none, .bin .gtr (.t 29) (.c (.int .i64 0)), []⟩]) (.ite (.t 30) .skip (.exit 0))) (.block 1 (.seq (.ops [⟨0, (some 32), none, .mov (.t 0), []⟩, ⟨1, (some 33), none, .mov (.t 9), []⟩, ⟨2, (some 34), none, .mov (.t 10), []⟩, ⟨3, (some 35), none, .call (.c (.func (.func 92) #[] #[])) [.t 32, .t 33, .t 34], []⟩, ⟨4, (some 31), none, .mov (.t 35), []⟩, ⟨5, (some 36), none, .ext (.t 31) 0, []⟩, ⟨6, (some 37), none, .ext (.t 31) 1, []⟩, ⟨7, (some 11), none, .mov (.t 36), []⟩, ⟨8, (some 12), none, .mov (.t 37), []⟩]) (.ops [⟨0, (some 38), none, .mov (.t 10), []⟩, ⟨1, (some 39), none, .mov (.t 12), []⟩, ⟨2, (some 9), none, .mov (.t 38), []⟩, ⟨3, (some 10), none, .mov (.t 39), []⟩])))))) (.seq (.seq (.ops [⟨0, (some 40), none, .mov (.t 9), []⟩, ⟨1, (some 41), none, .len (.t 40), []⟩, ⟨2, (some 42), none, .bin .gtr (.t 41) (.c (.int .i64 0)), []⟩]) (.ite (.t 42) (.seq (.dops [⟨0, (some 44), none, .mov (.t 0), []⟩, ⟨1, (some 45), none, .nil (.t 44), []⟩, ⟨2, (some 46), none, .fad 1 (.t 45), []⟩, ⟨3, (some 47), none, .ld (.t 46), []⟩, ⟨4, (some 48), none, .mov (.t 9), []⟩, ⟨5, (some 49), none, .mov (.t 9), []⟩, ⟨6, (some 50), none, .len (.t 49), []⟩, ⟨7, (some 51), none, .bin .sub (.t 50) (.c (.int .i64 1)), []⟩, ⟨8, (some 52), none, .ixs 1 (.t 48) (.t 51), []⟩, ⟨9, (some 53), none, .ld (.t 52), []⟩, ⟨10, (some 54), none, .call (.t 47) [.t 53], []⟩, ⟨11, (some 43), none, .mov (.t 54), []⟩, ⟨12, (some 55), none, .ext (.t 43) 0, []⟩, ⟨13, (some 56), none, .ext (.t 43) 1, []⟩, ⟨14, (some 13), none, .mov (.t 55), []⟩, ⟨15, (some 14), none, .mov (.t 56), []⟩]) (.seq (.ops [⟨0, (some 57), none, .mov (.t 9), []⟩, ⟨1, (some 58), none, .len (.t 57), []⟩, ⟨2, (some 59), none, .mov (.c (.int .i64 0)), []⟩]) (.block 2 (.loop (.seq (.ops [⟨0, (some 60), none, .bin .lss (.t 59) (.t 58), []⟩]) (.seq (.ite (.t 60) .skip (.exit 2)) (.seq (.block 3 (.seq (.ops [⟨0, (some 61), none, .mov (.t 59), []⟩, ⟨1, (some 15), none, .mov (.t 61), []⟩]) (.dops [⟨0, (some 62), none, .mov (.t 9), []⟩, ⟨1, (some 63), none, .mov (.t 15), []⟩, ⟨2, (some 64), none, .mov (.t 0), []⟩, ⟨3, (some 65), none, .nil (.t 64), []⟩, ⟨4, (some 66), none, .fad 0 (.t 65), []⟩, ⟨5, (some 67), none, .ld (.t 66), []⟩, ⟨6, (some 68), none, .mov (.t 9), []⟩, ⟨7, (some 69), none, .mov (.t 15), []⟩, ⟨8, (some 70), none, .ixs 1 (.t 68) (.t 69), []⟩, ⟨9, (some 71), none, .ld (.t 70), []⟩, ⟨10, (some 72), none, .mov (.t 13), []⟩, ⟨11, (some 73), none, .call (.t 67) [.t 71, .t 72], []⟩, ⟨12, (some 74), none, .ixs 1 (.t 62) (.t 63), []⟩, ⟨13, none, none, .st (.t 74) (.t 73), []⟩]))) (.ops [⟨0, (some 75), none, .bin .add (.t 59) (.c (.int .i64 1)), []⟩, ⟨1, (some 59), none, .mov (.t 75), []⟩])))))))) .skip)) (.seq (.ops [⟨0, (some 76), none, .mov (.t 9), []⟩, ⟨1, (some 6), none, .mov (.t 76), []⟩, ⟨2, (some 7), none, .mov (.c (.int .i64 0)), []⟩]) .ret)))))
attribute [irreducible] c_polys_Ring_w_Gcd
theorem run_polys_Ring_w_Gcd {args : List Value} {w : World} {K : Value → World → Prop} (hn : args.length ≤ 77) (h : WP Try.prog c_polys_Ring_w_Gcd (endQ [.t 6, .t 7] K) (initT args) w) : CallV Try.prog 59 args w K :=
  call_of follows Try.func59 (by kernel_rfl) (by kernel_rfl) hn h
def c_polys_Ring_b_Gcd : C := .seq (.ops [⟨0, (some 6), none, .mov (.c (.slice none 0 0)), []⟩, ⟨1, (some 7), none, .mov (.c (.int .i64 0)), []⟩]) (.seq (.seq (.ops [⟨0, (some 16), none, .mov (.t 0), []⟩, ⟨1, (some 17), none, .mov (.t 1), []⟩, ⟨2, (some 18), none, .mov (.t 2), []⟩, ⟨3, (some 19), none, .bsl 57 2 [.slice none 0 0] [(0, (1, .t 17)), (1, (1, .t 18))], []⟩, ⟨4, (some 20), none, .call (.c (.func (.func 80) #[] #[])) [.t 16, .t 19], []⟩, ⟨5, (some 8), none, .mov (.t 20), []⟩]) (.seq (.ops [⟨0, (some 21), none, .mov (.t 8), []⟩, ⟨1, (some 22), none, .bin .neq (.t 21) (.c (.int .i64 0)), []⟩]) (.ite (.t 22) (.seq (.ops [⟨0, (some 23), none, .mov (.t 8), []⟩, ⟨1, (some 6), none, .mov (.c (.slice none 0 0)), []⟩, ⟨2, (some 7), none, .mov (.t 23), []⟩]) .ret) .skip))) (.seq (.ops [⟨0, (some 24), none, .mov (.t 1), []⟩, ⟨1, (some 25), none, .call (.c (.func (.func 85) #[] #[])) [.t 24], []⟩, ⟨2, (some 26), none, .mov (.t 2), []⟩, ⟨3, (some 27), none, .call (.c (.func (.func 85) #[] #[])) [.t 26], []⟩, ⟨4, (some 9), none, .mov (.t 25), []⟩, ⟨5, (some 10), none, .mov (.t 27), []⟩]) (.seq (.block 0 (.loop (.seq (.seq (.ops [⟨0, (some 28), none, .mov (.t 10), []⟩, ⟨1, (some 29), none, .len (.t 28), []⟩, ⟨2, (some 30), none, .bin .gtr (.t 29) (.c (.int .i64 0)), []⟩]) (.ite (.t 30) .skip (.exit 0))) (.block 1 (.seq (.ops [⟨0, (some 32), none, .mov (.t 0), []⟩, ⟨1, (some 33), none, .mov (.t 9), []⟩, ⟨2, (some 34), none, .mov (.t 10), []⟩, ⟨3, (some 35), none, .call (.c (.func (.func 94) #[] #[])) [.t 32, .t 33, .t 34], []⟩, ⟨4, (some 31), none, .mov (.t 35), []⟩, ⟨5, (some 36), none, .ext (.t 31) 0, []⟩, ⟨6, (some 37), none, .ext (.t 31) 1, []⟩, ⟨7, (some 11), none, .mov (.t 36), []⟩, ⟨8, (some 12), none, .mov (.t 37), []⟩]) (.ops [⟨0, (some 38), none, .mov (.t 10), []⟩, ⟨1, (some 39), none, .mov (.t 12), []⟩, ⟨2, (some 9), none, .mov (.t 38), []⟩, ⟨3, (some 10), none, .mov (.t 39), []⟩])))))) (.seq (.seq (.ops [⟨0, (some 40), none, .mov (.t 9), []⟩, ⟨1, (some 41), none, .len (.t 40), []⟩, ⟨2, (some 42), none, .bin .gtr (.t 41) (.c (.int .i64 0)), []⟩]) (.ite (.t 42) (.seq (.dops [⟨0, (some 44), none, .mov (.t 0), []⟩, ⟨1, (some 45), none, .nil (.t 44), []⟩, ⟨2, (some 46), none, .fad 1 (.t 45), []⟩, ⟨3, (some 47), none, .ld (.t 46), []⟩, ⟨4, (some 48), none, .mov (.t 9), []⟩, ⟨5, (some 49), none, .mov (.t 9), []⟩, ⟨6, (some 50), none, .len (.t 49), []⟩, ⟨7, (some 51), none, .bin .sub (.t 50) (.c (.int .i64 1)), []⟩, ⟨8, (some 52), none, .ixs 1 (.t 48) (.t 51), []⟩, ⟨9, (some 53), none, .ld (.t 52), []⟩, ⟨10, (some 54), none, .call (.t 47) [.t 53], []⟩, ⟨11, (some 43), none, .mov (.t 54), []⟩, ⟨12, (some 55), none, .ext (.t 43) 0, []⟩, ⟨13, (some 56), none, .ext (.t 43) 1, []⟩, ⟨14, (some 13), none, .mov (.t 55), []⟩, ⟨15, (some 14), none, .mov (.t 56), []⟩]) (.seq (.ops [⟨0, (some 57), none, .mov (.t 9), []⟩, ⟨1, (some 58), none, .len (.t 57), []⟩, ⟨2, (some 59), none, .mov (.c (.int .i64 0)), []⟩]) (.block 2 (.loop (.seq (.ops [⟨0, (some 60), none, .bin .lss (.t 59) (.t 58), []⟩]) (.seq (.ite (.t 60) .skip (.exit 2)) (.seq (.block 3 (.seq (.ops [⟨0, (some 61), none, .mov (.t 59), []⟩, ⟨1, (some 15), none, .mov (.t 61), []⟩]) (.dops [⟨0, (some 62), none, .mov (.t 9), []⟩, ⟨1, (some 63), none, .mov (.t 15), []⟩, ⟨2, (some 64), none, .mov (.t 0), []⟩, ⟨3, (some 65), none, .nil (.t 64), []⟩, ⟨4, (some 66), none, .fad 0 (.t 65), []⟩, ⟨5, (some 67), none, .ld (.t 66), []⟩, ⟨6, (some 68), none, .mov (.t 9), []⟩, ⟨7, (some 69), none, .mov (.t 15), []⟩, ⟨8, (some 70), none, .ixs 1 (.t 68) (.t 69), []⟩, ⟨9, (some 71), none, .ld (.t 70), []⟩, ⟨10, (some 72), none, .mov (.t 13), []⟩, ⟨11, (some 73), none, .call (.t 67) [.t 71, .t 72], []⟩, ⟨12, (some 74), none, .ixs 1 (.t 62) (.t 63), []⟩, ⟨13, none, none, .st (.t 74) (.t 73), []⟩]))) (.ops [⟨0, (some 75), none, .bin .add (.t 59) (.c (.int .i64 1)), []⟩, ⟨1, (some 59), none, .mov (.t 75), []⟩])))))))) .skip)) (.seq (.ops [⟨0, (some 76), none, .mov (.t 9), []⟩, ⟨1, (some 6), none, .mov (.t 76), []⟩, ⟨2, (some 7), none, .mov (.c (.int .i64 0)), []⟩]) .ret)))))
attribute [irreducible] c_polys_Ring_b_Gcd
theorem run_polys_Ring_b_Gcd {args : List Value} {w : World} {K : Value → World → Prop} (hn : args.length ≤ 77) (h : WP Try.prog c_polys_Ring_b_Gcd (endQ [.t 6, .t 7] K) (initT args) w) : CallV Try.prog 60 args w K :=
  call_of follows Try.func60 (by kernel_rfl) (by kernel_rfl) hn h
end Go.Proofs.Ytcdagkcchfibjaa.Fw
namespace Go.Proofs.Ytcdagkcchfibjaa.Fw
open Go Go.Fw
theorem polys_Ring_w_Gcd_spec (w : World) (r s1 s2 : Value) (l1 l2 : List (El 16)) (hr : Ring_w w r) (h1 : Sl w s1 l1) (h2 : Sl w s2 l2) (hb1 : l1.length ≤ 70368744175616) (hb2 : l2.length ≤ 70368744175616) :
    CallV Try.prog 59 [r, s1, s2] w fun v w' => RowKit.Below w.heap.size w w' ∧
      ((l1.length ≤ 1024 ∧ l2.length ≤ 1024 ∧ ∃ s m, v = .tuple #[s, .int .i64 0] ∧ Ow w.heap.size w' s m ∧ tr m = m ∧ Dv (co m) (co l1) ∧ Dv (co m) (co l2) ∧ (∃ a b, Pol a ∧ Pol b ∧ co m = a * co l1 + b * co l2) ∧ (m ≠ [] → (co m).c (m.length - 1) = 1) ∧ m.length ≤ max l1.length l2.length) ∨
       (¬ (l1.length ≤ 1024 ∧ l2.length ≤ 1024) ∧ v = .tuple #[.slice none 0 0, .int .i64 5])) := by
  refine run_polys_Ring_w_Gcd (by simp) ?_
  simp only [c_polys_Ring_w_Gcd, WS, List.getElem_cons_zero, List.getElem_cons_succ, Option.isNone_some, Option.isNone_none, List.getD_cons_zero, List.getD_cons_succ, I.at, atL, atO, atP, evp, evs, retV, ↓reduceIte, Nat.reduceEqDiff, reduceCtorEq]
  obtain ⟨e1, n1⟩ := h1.hd
  obtain ⟨e2, n2⟩ := h2.hd
  refine X_bsl (zs := [hd s1, hd s2]) (fill2 h1 h2) rfl fun ls w1 ho hB => ?_
  obtain ⟨b, mv, iv, rfl, -, -⟩ := id hr
  simp only [WS, List.getElem_cons_zero, List.getElem_cons_succ, Option.isNone_some, Option.isNone_none, List.getD_cons_zero, List.getD_cons_succ, I.at, atL, atO, atP, evp, evs, retV, ↓reduceIte, Nat.reduceEqDiff, reduceCtorEq]
  refine X_call0 ((polys_Ring_w_refuses_spec w1 _ ls _ ho.sl (by simp) (by simp [n1, n2]; omega)).mono ?_)
  rintro v w' ⟨rfl, rfl⟩
  have hiff : (∀ x ∈ [hd s1, hd s2], x.n ≤ 1024) = (l1.length ≤ 1024 ∧ l2.length ≤ 1024) := by simp [n1, n2]
  by_cases hsz : l1.length ≤ 1024 ∧ l2.length ≤ 1024
  · rw [if_pos (hiff.mpr hsz)]
    simp only [WS, List.getElem_cons_zero, List.getElem_cons_succ, Option.isNone_some, Option.isNone_none, List.getD_cons_zero, List.getD_cons_succ, I.at, atL, atO, atP, evp, evs, retV, ↓reduceIte, Nat.reduceEqDiff, reduceCtorEq, show decide ((0 : Int) = 0) = true from rfl]
    refine X_call0 ((polys_copied_w_spec w' s1 l1 (h1.up hB) hb1).mono ?_)
    rintro sa w2 ⟨oa, hB2⟩
    have B2 : RowKit.Below w.heap.size w w2 := hB.trans (hB2.mono hB.size)
    simp only [WS, List.getElem_cons_zero, List.getElem_cons_succ, Option.isNone_some, Option.isNone_none, List.getD_cons_zero, List.getD_cons_succ, I.at, atL, atO, atP, evp, evs, retV, ↓reduceIte, Nat.reduceEqDiff, reduceCtorEq]
    refine X_call0 ((polys_copied_w_spec w2 s2 l2 (h2.up B2) hb2).mono ?_)
    rintro sb w3 ⟨ob, hB3⟩
    have B3 : RowKit.Below w.heap.size w w3 := B2.trans (hB3.mono B2.size)
    have oa := (oa.up hB3).mono hB.size
    have ob := ob.mono B2.size
    simp only [WS, List.getElem_cons_zero, List.getElem_cons_succ, Option.isNone_some, Option.isNone_none, List.getD_cons_zero, List.getD_cons_succ, I.at, atL, atO, atP, evp, evs, retV, ↓reduceIte, Nat.reduceEqDiff, reduceCtorEq]
    have t1 := tln_le l1
    have t2 := tln_le l2
    refine loop_of (fun t w' => t 0 = .pointer (some ⟨b, 0, none⟩) ∧ RowKit.Below w.heap.size w w' ∧ ∃ (sa sb : Value) (la lb : List (El 16)), t 9 = sa ∧ t 10 = sb ∧ Ow w.heap.size w' sa la ∧ Ow w.heap.size w' sb lb ∧ tr la = la ∧ tr lb = lb ∧
        (∃ p q, Pol p ∧ Pol q ∧ co la = p * co l1 + q * co l2) ∧ (∃ p q, Pol p ∧ Pol q ∧ co lb = p * co l1 + q * co l2) ∧ (∀ d, Dv d (co la) → Dv d (co lb) → Dv d (co l1) ∧ Dv d (co l2)) ∧ la.length ≤ max l1.length l2.length ∧ lb.length ≤ max l1.length l2.length)
      (fun t w' => match t 10 with | .slice _ n _ => n | _ => 0) ⟨by simp only [WS, List.getElem_cons_zero, List.getElem_cons_succ, Option.isNone_some, Option.isNone_none, List.getD_cons_zero, List.getD_cons_succ, I.at, atL, atO, atP, evp, evs, retV, ↓reduceIte, Nat.reduceEqDiff, reduceCtorEq], B3, sa, sb, tr l1, tr l2, by simp only [WS, List.getElem_cons_zero, List.getElem_cons_succ, Option.isNone_some, Option.isNone_none, List.getD_cons_zero, List.getD_cons_succ, I.at, atL, atO, atP, evp, evs, retV, ↓reduceIte, Nat.reduceEqDiff, reduceCtorEq], by simp only [WS, List.getElem_cons_zero, List.getElem_cons_succ, Option.isNone_some, Option.isNone_none, List.getD_cons_zero, List.getD_cons_succ, I.at, atL, atO, atP, evp, evs, retV, ↓reduceIte, Nat.reduceEqDiff, reduceCtorEq], oa, ob, tr_tr l1, tr_tr l2,
        ⟨1, 0, Pol.one, Pol.zero, by rw [tr_co, Ps.one_mul, Ps.zero_mul, Ps.add_zero]⟩, ⟨0, 1, Pol.zero, Pol.one, by rw [tr_co, Ps.one_mul, Ps.zero_mul, Ps.zero_add]⟩, fun d h3 h4 => by rw [tr_co] at h3 h4; exact ⟨h3, h4⟩, by rw [tr_len]; omega, by rw [tr_len]; omega⟩ ?_
    clear oa ob
    rintro t w4 ⟨t0, hB4, sa, sb, la, lb, t9, t10, oa, ob, ta, tb, ⟨p, q, hp, hq, hla⟩, ⟨p', q', hp', hq', hlb⟩, hdv, hna, hnb⟩
    by_cases hz : lb.length = 0
    · obtain rfl : lb = [] := List.eq_nil_of_length_eq_zero hz
      obtain ⟨d1, d2⟩ := hdv (co la) (Dv.refl _) (Dv.zero _)
      simp only [WS, List.getElem_cons_zero, List.getElem_cons_succ, Option.isNone_some, Option.isNone_none, List.getD_cons_zero, List.getD_cons_succ, I.at, atL, atO, atP, evp, evs, retV, ↓reduceIte, Nat.reduceEqDiff, reduceCtorEq, t0, t9, t10, ob.sl.Xlen, List.length_nil, show decide ((0 : Int) < ((0 : Nat) : Int)) = false from rfl, oa.sl.Xlen]
      by_cases hza : la.length = 0
      · obtain rfl : la = [] := List.eq_nil_of_length_eq_zero hza
        simp only [WS, List.getElem_cons_zero, List.getElem_cons_succ, Option.isNone_some, Option.isNone_none, List.getD_cons_zero, List.getD_cons_succ, I.at, atL, atO, atP, evp, evs, retV, ↓reduceIte, Nat.reduceEqDiff, reduceCtorEq, t0, t9, t10, List.length_nil, show decide ((0 : Int) < ((0 : Nat) : Int)) = false from rfl]
        exact ⟨hB4, Or.inl ⟨hsz.1, hsz.2, sa, [], rfl, oa, rfl, d1, d2, ⟨p, q, hp, hq, hla⟩, fun h => absurd rfl h, by simp⟩⟩
      · have hal := len_tr ta
        obtain ⟨j, hj⟩ : ∃ j, la.length = j + 1 := ⟨la.length - 1, by omega⟩
        have hjl : j < la.length := by omega
        have htop : la[j] ≠ 0 := by rw [← co_get la hjl]; exact tln_top la j (by omega)
        have wj : IntKind.i64.wrap ((la.length : Int) - 1) = (j : Int) := by rw [wrap_id (by omega) (by omega)]; omega
        obtain ⟨b', mv', iv', hbe, hrow', hm', hi'⟩ := hr.up hB4
        cases hbe
        have oad := oa.sl.drew
        simp only [WS, List.getElem_cons_zero, List.getElem_cons_succ, Option.isNone_some, Option.isNone_none, List.getD_cons_zero, List.getD_cons_succ, I.at, atL, atO, atP, evp, evs, retV, ↓reduceIte, Nat.reduceEqDiff, reduceCtorEq, t0, t9, t10, show decide ((0 : Int) < (la.length : Int)) = true from decide_eq_true (by omega)]
        refine WP_dops ?_
        simp only [ES, List.mem_cons, List.not_mem_nil, implies_true, forall_const, WS, List.getElem_cons_zero, List.getElem_cons_succ, Option.isNone_some, Option.isNone_none, List.getD_cons_zero, List.getD_cons_succ, I.at, atL, atO, atP, evp, evs, retV, ↓reduceIte, Nat.reduceEqDiff, reduceCtorEq, t0, t9, t10, addr_add0, Nat.zero_add, hrow'.drew.Eld (show 1 < [mv', iv'].length by simp), oad.Xlen, oad.Elen, wj, oad.Eix hjl, oad.Eld hjl, cell_e16]
        refine E_callK (Inv_w.call (w := w4.drew) hi' _ htop fun w5 hl => ?_)
        have hL : Like w4 w5 := (Like.drew w4).trans hl
        have oa := hL.ow oa
        have hB5 := hL.bel hB4 hB4.size
        generalize hc : (la[j]).inv = c
        have hgc : la[j] * c = 1 := by rw [← hc]; exact El.mul_inv _ htop
        simp only [ES, List.mem_cons, List.not_mem_nil, implies_true, forall_const, WS, List.getElem_cons_zero, List.getElem_cons_succ, Option.isNone_some, Option.isNone_none, List.getD_cons_zero, List.getD_cons_succ, I.at, atL, atO, atP, evp, evs, retV, ↓reduceIte, Nat.reduceEqDiff, reduceCtorEq, t0, t9, t10, oa.sl.Xlen]
        refine loop_of (fun t w' => t 0 = .pointer (some ⟨b, 0, none⟩) ∧ t 9 = sa ∧ t 13 = .int .u16 (c.v.toNat : Int) ∧ t 58 = .int .i64 (la.length : Int) ∧ RowKit.Below w.heap.size w w' ∧ ∃ (i : Nat) (ms : List (El 16)), t 59 = .int .i64 (i : Int) ∧ i ≤ la.length ∧ Ow w.heap.size w' sa ms ∧ ms.length = la.length ∧ ∀ k, (co ms).c k = if k < i then (co la).c k * c else (co la).c k)
          (fun t _ => la.length - (toI (t 59)).toNat) ⟨by simp only [WS, List.getElem_cons_zero, List.getElem_cons_succ, Option.isNone_some, Option.isNone_none, List.getD_cons_zero, List.getD_cons_succ, I.at, atL, atO, atP, evp, evs, retV, ↓reduceIte, Nat.reduceEqDiff, reduceCtorEq, t0], by simp only [WS, List.getElem_cons_zero, List.getElem_cons_succ, Option.isNone_some, Option.isNone_none, List.getD_cons_zero, List.getD_cons_succ, I.at, atL, atO, atP, evp, evs, retV, ↓reduceIte, Nat.reduceEqDiff, reduceCtorEq, t9], rfl, rfl, hB5, 0, la, rfl, by omega, oa, rfl, fun k => by rw [if_neg (by omega)]⟩ ?_
        clear t0 t9 t10 oa hB5 hrow' hm' hi'
        rintro t w6 ⟨t0, t9, t13, t58, hB6, i, ms, t59, hi, oa, hms, hmc⟩
        by_cases hil : i < la.length
        · obtain ⟨b', mv', iv', hbe, hrow', hm', hi'⟩ := hr.up hB6
          cases hbe
          have him : i < ms.length := by omega
          have wi : IntKind.i64.wrap ((i : Int) + 1) = ((i + 1 : Nat) : Int) := by rw [wrap_id (by omega) (by omega)]; omega
          have oad := oa.sl.drew
          simp only [WS, List.getElem_cons_zero, List.getElem_cons_succ, Option.isNone_some, Option.isNone_none, List.getD_cons_zero, List.getD_cons_succ, I.at, atL, atO, atP, evp, evs, retV, ↓reduceIte, Nat.reduceEqDiff, reduceCtorEq, t0, t9, t13, t58, t59, show decide ((i : Int) < (la.length : Int)) = true from decide_eq_true (by omega)]
          refine WP_dops ?_
          simp only [ES, List.mem_cons, List.not_mem_nil, implies_true, forall_const, WS, List.getElem_cons_zero, List.getElem_cons_succ, Option.isNone_some, Option.isNone_none, List.getD_cons_zero, List.getD_cons_succ, I.at, atL, atO, atP, evp, evs, retV, ↓reduceIte, Nat.reduceEqDiff, reduceCtorEq, t0, t9, t13, t58, t59, addr_add0, Nat.add_zero, hrow'.drew.Eld (show 0 < [mv', iv'].length by simp), oad.Eix him, oad.Eld him, cell_e16]
          refine E_callK (Mul_w.call (w := w6.drew) hm' _ _ fun w7 hl => ?_)
          have hL : Like w6 w7 := (Like.drew w6).trans hl
          have oa7 := hL.ow oa
          simp only [ES, List.mem_cons, List.not_mem_nil, implies_true, forall_const, WS, List.getElem_cons_zero, List.getElem_cons_succ, Option.isNone_some, Option.isNone_none, List.getD_cons_zero, List.getD_cons_succ, I.at, atL, atO, atP, evp, evs, retV, ↓reduceIte, Nat.reduceEqDiff, reduceCtorEq, oa7.sl.Eix him]
          refine Ow.Est oa7 him (ms[i] * c) fun w8 oa8 hg8 => ?_
          have hB8 := (hL.bel hB6 hB6.size).grown hg8 (by rw [hL.size]; exact hB6.size) fun k hk => (oa7.blk k hk).1
          simp only [ES, List.mem_cons, List.not_mem_nil, implies_true, forall_const, WS, List.getElem_cons_zero, List.getElem_cons_succ, Option.isNone_some, Option.isNone_none, List.getD_cons_zero, List.getD_cons_succ, I.at, atL, atO, atP, evp, evs, retV, ↓reduceIte, Nat.reduceEqDiff, reduceCtorEq, t0, t9, t13, t58, t59, wi, toI_int]
          refine ⟨⟨hB8, i + 1, _, rfl, by omega, oa8, by simp [hms], fun k => ?_⟩, by omega⟩
          rw [co_set _ him, hmc k]
          by_cases hk : k = i
          · subst hk
            have := hmc k
            rw [if_neg (by omega), co_get ms him] at this
            rw [if_pos rfl, if_pos (by omega), this]
          · rw [if_neg hk]
            by_cases hki : k < i
            · rw [if_pos hki, if_pos (by omega)]
            · rw [if_neg hki, if_neg (by omega)]
        · have hie : i = la.length := by omega
          subst hie
          have hco : co ms = Ps.C c * co la := Ps.ext fun k => by
            rw [hmc k, Ps.C_mul]
            by_cases hk : k < la.length
            · rw [if_pos hk, El.mul_comm]
            · rw [if_neg hk, co_dg la k (by omega), El.mul_zero]
          have hback : co la = Ps.C la[j] * co ms := Ps.ext fun k => by
            rw [hco, Ps.C_mul, Ps.C_mul, ← El.mul_assoc, hgc, El.one_mul]
          have htop1 : (co ms).c (ms.length - 1) = 1 := by
            rw [hco, Ps.C_mul, hms, hj, Nat.add_sub_cancel, co_get la hjl, El.mul_comm, hgc]
          have htr : tr ms = ms := by
            have : tln ms = ms.length := tln_of (co_dg ms) (Or.inr (by rw [htop1]; exact El.one_ne))
            unfold tr; rw [this, List.take_length]
          have hdm : Dv (co ms) (co la) := ⟨_, Pol.C _, hback⟩
          simp only [WS, List.getElem_cons_zero, List.getElem_cons_succ, Option.isNone_some, Option.isNone_none, List.getD_cons_zero, List.getD_cons_succ, I.at, atL, atO, atP, evp, evs, retV, ↓reduceIte, Nat.reduceEqDiff, reduceCtorEq, t0, t9, t13, t58, t59, show decide ((la.length : Int) < (la.length : Int)) = false from decide_eq_false (by omega)]
          exact ⟨hB6, Or.inl ⟨hsz.1, hsz.2, sa, ms, rfl, oa, htr, hdm.trans d1, hdm.trans d2, ⟨Ps.C c * p, Ps.C c * q, (Pol.C c).mul hp, (Pol.C c).mul hq, by rw [hco, hla, Ps.mul_add, Ps.mul_assoc, Ps.mul_assoc]⟩, fun _ => htop1, by omega⟩⟩
    · have hlen := len_tr tb
      have hlna := len_tr ta
      simp only [WS, List.getElem_cons_zero, List.getElem_cons_succ, Option.isNone_some, Option.isNone_none, List.getD_cons_zero, List.getD_cons_succ, I.at, atL, atO, atP, evp, evs, retV, ↓reduceIte, Nat.reduceEqDiff, reduceCtorEq, t0, t9, t10, ob.sl.Xlen, show decide ((0 : Int) < (lb.length : Int)) = true from decide_eq_true (by omega)]
      refine X_call0 ((polys_Ring_w_divided_spec w4 _ sa sb la lb (hr.up hB4) oa.sl ob.sl (by omega) (by omega) (by omega)).mono ?_)
      rintro _ w5 ⟨sq, sm, qq, m, rfl, oq, om, tq, tm, hco, hml, hql, hB5⟩
      simp only [WS, List.getElem_cons_zero, List.getElem_cons_succ, Option.isNone_some, Option.isNone_none, List.getD_cons_zero, List.getD_cons_succ, I.at, atL, atO, atP, evp, evs, retV, ↓reduceIte, Nat.reduceEqDiff, reduceCtorEq, t0, t9, t10]
      have hm : co m = co la + co qq * co lb := by rw [hco]; generalize co qq * co lb = A; rw [show A + co m + A = co m + (A + A) by ac_rfl, Ps.add_self, Ps.add_zero]
      refine ⟨⟨hB4.trans (hB5.mono hB4.size), sb, sm, lb, m, rfl, rfl, ob.up hB5, om.mono hB4.size, tb, tm, ⟨p', q', hp', hq', hlb⟩, ⟨p + co qq * p', q + co qq * q', hp.add ((Pol.of qq).mul hp'), hq.add ((Pol.of qq).mul hq'), ?_⟩, fun d h3 h4 => ?_, hnb, by omega⟩, ?_⟩
      · rw [hm, hla, hlb, Ps.mul_add, Ps.add_mul, Ps.add_mul, Ps.mul_assoc, Ps.mul_assoc]; ac_rfl
      · exact hdv d (by rw [hco]; exact (h3.mul (Pol.of qq)).add h4) h3
      · obtain ⟨a1, c1, e3, -, -⟩ := om.sl.sh
        obtain ⟨a2, c2, e4, -, -⟩ := ob.sl.sh
        rw [e3, e4]
        show m.length < lb.length
        omega
  · rw [if_neg (fun e => hsz (hiff.mp e))]
    simp only [WS, List.getElem_cons_zero, List.getElem_cons_succ, Option.isNone_some, Option.isNone_none, List.getD_cons_zero, List.getD_cons_succ, I.at, atL, atO, atP, evp, evs, retV, ↓reduceIte, Nat.reduceEqDiff, reduceCtorEq, show decide ((5 : Int) = 0) = false from rfl]
    exact ⟨hB, Or.inr hsz⟩
end Go.Proofs.Ytcdagkcchfibjaa.Fw

namespace Go.Proofs.Ytcdagkcchfibjaa.Fw
open Go Go.Fw
theorem polys_Ring_b_Gcd_spec (w : World) (r s1 s2 : Value) (l1 l2 : List (El 8)) (hr : Ring_b w r) (h1 : Sl w s1 l1) (h2 : Sl w s2 l2) (hb1 : l1.length ≤ 70368744175616) (hb2 : l2.length ≤ 70368744175616) :
    CallV Try.prog 60 [r, s1, s2] w fun v w' => RowKit.Below w.heap.size w w' ∧
      ((l1.length ≤ 1024 ∧ l2.length ≤ 1024 ∧ ∃ s m, v = .tuple #[s, .int .i64 0] ∧ Ow w.heap.size w' s m ∧ tr m = m ∧ Dv (co m) (co l1) ∧ Dv (co m) (co l2) ∧ (∃ a b, Pol a ∧ Pol b ∧ co m = a * co l1 + b * co l2) ∧ (m ≠ [] → (co m).c (m.length - 1) = 1) ∧ m.length ≤ max l1.length l2.length) ∨
       (¬ (l1.length ≤ 1024 ∧ l2.length ≤ 1024) ∧ v = .tuple #[.slice none 0 0, .int .i64 5])) := by
  refine run_polys_Ring_b_Gcd (by simp) ?_
  simp only [c_polys_Ring_b_Gcd, WS, List.getElem_cons_zero, List.getElem_cons_succ, Option.isNone_some, Option.isNone_none, List.getD_cons_zero, List.getD_cons_succ, I.at, atL, atO, atP, evp, evs, retV, ↓reduceIte, Nat.reduceEqDiff, reduceCtorEq]
  obtain ⟨e1, n1⟩ := h1.hd
  obtain ⟨e2, n2⟩ := h2.hd
  refine X_bsl (zs := [hd s1, hd s2]) (fill2 h1 h2) rfl fun ls w1 ho hB => ?_
  obtain ⟨b, mv, iv, rfl, -, -⟩ := id hr
  simp only [WS, List.getElem_cons_zero, List.getElem_cons_succ, Option.isNone_some, Option.isNone_none, List.getD_cons_zero, List.getD_cons_succ, I.at, atL, atO, atP, evp, evs, retV, ↓reduceIte, Nat.reduceEqDiff, reduceCtorEq]
  refine X_call0 ((polys_Ring_b_refuses_spec w1 _ ls _ ho.sl (by simp) (by simp [n1, n2]; omega)).mono ?_)
  rintro v w' ⟨rfl, rfl⟩
  have hiff : (∀ x ∈ [hd s1, hd s2], x.n ≤ 1024) = (l1.length ≤ 1024 ∧ l2.length ≤ 1024) := by simp [n1, n2]
  by_cases hsz : l1.length ≤ 1024 ∧ l2.length ≤ 1024
  · rw [if_pos (hiff.mpr hsz)]
    simp only [WS, List.getElem_cons_zero, List.getElem_cons_succ, Option.isNone_some, Option.isNone_none, List.getD_cons_zero, List.getD_cons_succ, I.at, atL, atO, atP, evp, evs, retV, ↓reduceIte, Nat.reduceEqDiff, reduceCtorEq, show decide ((0 : Int) = 0) = true from rfl]
    refine X_call0 ((polys_copied_b_spec w' s1 l1 (h1.up hB) hb1).mono ?_)
    rintro sa w2 ⟨oa, hB2⟩
    have B2 : RowKit.Below w.heap.size w w2 := hB.trans (hB2.mono hB.size)
    simp only [WS, List.getElem_cons_zero, List.getElem_cons_succ, Option.isNone_some, Option.isNone_none, List.getD_cons_zero, List.getD_cons_succ, I.at, atL, atO, atP, evp, evs, retV, ↓reduceIte, Nat.reduceEqDiff, reduceCtorEq]
    refine X_call0 ((polys_copied_b_spec w2 s2 l2 (h2.up B2) hb2).mono ?_)
    rintro sb w3 ⟨ob, hB3⟩
    have B3 : RowKit.Below w.heap.size w w3 := B2.trans (hB3.mono B2.size)
    have oa := (oa.up hB3).mono hB.size
    have ob := ob.mono B2.size
    simp only [WS, List.getElem_cons_zero, List.getElem_cons_succ, Option.isNone_some, Option.isNone_none, List.getD_cons_zero, List.getD_cons_succ, I.at, atL, atO, atP, evp, evs, retV, ↓reduceIte, Nat.reduceEqDiff, reduceCtorEq]
    have t1 := tln_le l1
    have t2 := tln_le l2
    refine loop_of (fun t w' => t 0 = .pointer (some ⟨b, 0, none⟩) ∧ RowKit.Below w.heap.size w w' ∧ ∃ (sa sb : Value) (la lb : List (El 8)), t 9 = sa ∧ t 10 = sb ∧ Ow w.heap.size w' sa la ∧ Ow w.heap.size w' sb lb ∧ tr la = la ∧ tr lb = lb ∧
        (∃ p q, Pol p ∧ Pol q ∧ co la = p * co l1 + q * co l2) ∧ (∃ p q, Pol p ∧ Pol q ∧ co lb = p * co l1 + q * co l2) ∧ (∀ d, Dv d (co la) → Dv d (co lb) → Dv d (co l1) ∧ Dv d (co l2)) ∧ la.length ≤ max l1.length l2.length ∧ lb.length ≤ max l1.length l2.length)
      (fun t w' => match t 10 with | .slice _ n _ => n | _ => 0) ⟨by simp only [WS, List.getElem_cons_zero, List.getElem_cons_succ, Option.isNone_some, Option.isNone_none, List.getD_cons_zero, List.getD_cons_succ, I.at, atL, atO, atP, evp, evs, retV, ↓reduceIte, Nat.reduceEqDiff, reduceCtorEq], B3, sa, sb, tr l1, tr l2, by simp only [WS, List.getElem_cons_zero, List.getElem_cons_succ, Option.isNone_some, Option.isNone_none, List.getD_cons_zero, List.getD_cons_succ, I.at, atL, atO, atP, evp, evs, retV, ↓reduceIte, Nat.reduceEqDiff, reduceCtorEq], by simp only [WS, List.getElem_cons_zero, List.getElem_cons_succ, Option.isNone_some, Option.isNone_none, List.getD_cons_zero, List.getD_cons_succ, I.at, atL, atO, atP, evp, evs, retV, ↓reduceIte, Nat.reduceEqDiff, reduceCtorEq], oa, ob, tr_tr l1, tr_tr l2,
        ⟨1, 0, Pol.one, Pol.zero, by rw [tr_co, Ps.one_mul, Ps.zero_mul, Ps.add_zero]⟩, ⟨0, 1, Pol.zero, Pol.one, by rw [tr_co, Ps.one_mul, Ps.zero_mul, Ps.zero_add]⟩, fun d h3 h4 => by rw [tr_co] at h3 h4; exact ⟨h3, h4⟩, by rw [tr_len]; omega, by rw [tr_len]; omega⟩ ?_
    clear oa ob
    rintro t w4 ⟨t0, hB4, sa, sb, la, lb, t9, t10, oa, ob, ta, tb, ⟨p, q, hp, hq, hla⟩, ⟨p', q', hp', hq', hlb⟩, hdv, hna, hnb⟩
    by_cases hz : lb.length = 0
    · obtain rfl : lb = [] := List.eq_nil_of_length_eq_zero hz
      obtain ⟨d1, d2⟩ := hdv (co la) (Dv.refl _) (Dv.zero _)
      simp only [WS, List.getElem_cons_zero, List.getElem_cons_succ, Option.isNone_some, Option.isNone_none, List.getD_cons_zero, List.getD_cons_succ, I.at, atL, atO, atP, evp, evs, retV, ↓reduceIte, Nat.reduceEqDiff, reduceCtorEq, t0, t9, t10, ob.sl.Xlen, List.length_nil, show decide ((0 : Int) < ((0 : Nat) : Int)) = false from rfl, oa.sl.Xlen]
      by_cases hza : la.length = 0
      · obtain rfl : la = [] := List.eq_nil_of_length_eq_zero hza
        simp only [WS, List.getElem_cons_zero, List.getElem_cons_succ, Option.isNone_some, Option.isNone_none, List.getD_cons_zero, List.getD_cons_succ, I.at, atL, atO, atP, evp, evs, retV, ↓reduceIte, Nat.reduceEqDiff, reduceCtorEq, t0, t9, t10, List.length_nil, show decide ((0 : Int) < ((0 : Nat) : Int)) = false from rfl]
        exact ⟨hB4, Or.inl ⟨hsz.1, hsz.2, sa, [], rfl, oa, rfl, d1, d2, ⟨p, q, hp, hq, hla⟩, fun h => absurd rfl h, by simp⟩⟩
      · have hal := len_tr ta
        obtain ⟨j, hj⟩ : ∃ j, la.length = j + 1 := ⟨la.length - 1, by omega⟩
        have hjl : j < la.length := by omega
        have htop : la[j] ≠ 0 := by rw [← co_get la hjl]; exact tln_top la j (by omega)
        have wj : IntKind.i64.wrap ((la.length : Int) - 1) = (j : Int) := by rw [wrap_id (by omega) (by omega)]; omega
        obtain ⟨b', mv', iv', hbe, hrow', hm', hi'⟩ := hr.up hB4
        cases hbe
        have oad := oa.sl.drew
        simp only [WS, List.getElem_cons_zero, List.getElem_cons_succ, Option.isNone_some, Option.isNone_none, List.getD_cons_zero, List.getD_cons_succ, I.at, atL, atO, atP, evp, evs, retV, ↓reduceIte, Nat.reduceEqDiff, reduceCtorEq, t0, t9, t10, show decide ((0 : Int) < (la.length : Int)) = true from decide_eq_true (by omega)]
        refine WP_dops ?_
        simp only [ES, List.mem_cons, List.not_mem_nil, implies_true, forall_const, WS, List.getElem_cons_zero, List.getElem_cons_succ, Option.isNone_some, Option.isNone_none, List.getD_cons_zero, List.getD_cons_succ, I.at, atL, atO, atP, evp, evs, retV, ↓reduceIte, Nat.reduceEqDiff, reduceCtorEq, t0, t9, t10, addr_add0, Nat.zero_add, hrow'.drew.Eld (show 1 < [mv', iv'].length by simp), oad.Xlen, oad.Elen, wj, oad.Eix hjl, oad.Eld hjl, cell_e8]
        refine E_callK (Inv_b.call (w := w4.drew) hi' _ htop fun w5 hl => ?_)
        have hL : Like w4 w5 := (Like.drew w4).trans hl
        have oa := hL.ow oa
        have hB5 := hL.bel hB4 hB4.size
        generalize hc : (la[j]).inv = c
        have hgc : la[j] * c = 1 := by rw [← hc]; exact El.mul_inv _ htop
        simp only [ES, List.mem_cons, List.not_mem_nil, implies_true, forall_const, WS, List.getElem_cons_zero, List.getElem_cons_succ, Option.isNone_some, Option.isNone_none, List.getD_cons_zero, List.getD_cons_succ, I.at, atL, atO, atP, evp, evs, retV, ↓reduceIte, Nat.reduceEqDiff, reduceCtorEq, t0, t9, t10, oa.sl.Xlen]
        refine loop_of (fun t w' => t 0 = .pointer (some ⟨b, 0, none⟩) ∧ t 9 = sa ∧ t 13 = .int .u8 (c.v.toNat : Int) ∧ t 58 = .int .i64 (la.length : Int) ∧ RowKit.Below w.heap.size w w' ∧ ∃ (i : Nat) (ms : List (El 8)), t 59 = .int .i64 (i : Int) ∧ i ≤ la.length ∧ Ow w.heap.size w' sa ms ∧ ms.length = la.length ∧ ∀ k, (co ms).c k = if k < i then (co la).c k * c else (co la).c k)
          (fun t _ => la.length - (toI (t 59)).toNat) ⟨by simp only [WS, List.getElem_cons_zero, List.getElem_cons_succ, Option.isNone_some, Option.isNone_none, List.getD_cons_zero, List.getD_cons_succ, I.at, atL, atO, atP, evp, evs, retV, ↓reduceIte, Nat.reduceEqDiff, reduceCtorEq, t0], by simp only [WS, List.getElem_cons_zero, List.getElem_cons_succ, Option.isNone_some, Option.isNone_none, List.getD_cons_zero, List.getD_cons_succ, I.at, atL, atO, atP, evp, evs, retV, ↓reduceIte, Nat.reduceEqDiff, reduceCtorEq, t9], rfl, rfl, hB5, 0, la, rfl, by omega, oa, rfl, fun k => by rw [if_neg (by omega)]⟩ ?_
        clear t0 t9 t10 oa hB5 hrow' hm' hi'
        rintro t w6 ⟨t0, t9, t13, t58, hB6, i, ms, t59, hi, oa, hms, hmc⟩
        by_cases hil : i < la.length
        · obtain ⟨b', mv', iv', hbe, hrow', hm', hi'⟩ := hr.up hB6
          cases hbe
          have him : i < ms.length := by omega
          have wi : IntKind.i64.wrap ((i : Int) + 1) = ((i + 1 : Nat) : Int) := by rw [wrap_id (by omega) (by omega)]; omega
          have oad := oa.sl.drew
          simp only [WS, List.getElem_cons_zero, List.getElem_cons_succ, Option.isNone_some, Option.isNone_none, List.getD_cons_zero, List.getD_cons_succ, I.at, atL, atO, atP, evp, evs, retV, ↓reduceIte, Nat.reduceEqDiff, reduceCtorEq, t0, t9, t13, t58, t59, show decide ((i : Int) < (la.length : Int)) = true from decide_eq_true (by omega)]
          refine WP_dops ?_
          simp only [ES, List.mem_cons, List.not_mem_nil, implies_true, forall_const, WS, List.getElem_cons_zero, List.getElem_cons_succ, Option.isNone_some, Option.isNone_none, List.getD_cons_zero, List.getD_cons_succ, I.at, atL, atO, atP, evp, evs, retV, ↓reduceIte, Nat.reduceEqDiff, reduceCtorEq, t0, t9, t13, t58, t59, addr_add0, Nat.add_zero, hrow'.drew.Eld (show 0 < [mv', iv'].length by simp), oad.Eix him, oad.Eld him, cell_e8]
          refine E_callK (Mul_b.call (w := w6.drew) hm' _ _ fun w7 hl => ?_)
          have hL : Like w6 w7 := (Like.drew w6).trans hl
          have oa7 := hL.ow oa
          simp only [ES, List.mem_cons, List.not_mem_nil, implies_true, forall_const, WS, List.getElem_cons_zero, List.getElem_cons_succ, Option.isNone_some, Option.isNone_none, List.getD_cons_zero, List.getD_cons_succ, I.at, atL, atO, atP, evp, evs, retV, ↓reduceIte, Nat.reduceEqDiff, reduceCtorEq, oa7.sl.Eix him]
          refine Ow.Est oa7 him (ms[i] * c) fun w8 oa8 hg8 => ?_
          have hB8 := (hL.bel hB6 hB6.size).grown hg8 (by rw [hL.size]; exact hB6.size) fun k hk => (oa7.blk k hk).1
          simp only [ES, List.mem_cons, List.not_mem_nil, implies_true, forall_const, WS, List.getElem_cons_zero, List.getElem_cons_succ, Option.isNone_some, Option.isNone_none, List.getD_cons_zero, List.getD_cons_succ, I.at, atL, atO, atP, evp, evs, retV, ↓reduceIte, Nat.reduceEqDiff, reduceCtorEq, t0, t9, t13, t58, t59, wi, toI_int]
          refine ⟨⟨hB8, i + 1, _, rfl, by omega, oa8, by simp [hms], fun k => ?_⟩, by omega⟩
          rw [co_set _ him, hmc k]
          by_cases hk : k = i
          · subst hk
            have := hmc k
            rw [if_neg (by omega), co_get ms him] at this
            rw [if_pos rfl, if_pos (by omega), this]
          · rw [if_neg hk]
            by_cases hki : k < i
            · rw [if_pos hki, if_pos (by omega)]
            · rw [if_neg hki, if_neg (by omega)]
        · have hie : i = la.length := by omega
          subst hie
          have hco : co ms = Ps.C c * co la := Ps.ext fun k => by
            rw [hmc k, Ps.C_mul]
            by_cases hk : k < la.length
            · rw [if_pos hk, El.mul_comm]
            · rw [if_neg hk, co_dg la k (by omega), El.mul_zero]
          have hback : co la = Ps.C la[j] * co ms := Ps.ext fun k => by
            rw [hco, Ps.C_mul, Ps.C_mul, ← El.mul_assoc, hgc, El.one_mul]
          have htop1 : (co ms).c (ms.length - 1) = 1 := by
            rw [hco, Ps.C_mul, hms, hj, Nat.add_sub_cancel, co_get la hjl, El.mul_comm, hgc]
          have htr : tr ms = ms := by
            have : tln ms = ms.length := tln_of (co_dg ms) (Or.inr (by rw [htop1]; exact El.one_ne))
            unfold tr; rw [this, List.take_length]
          have hdm : Dv (co ms) (co la) := ⟨_, Pol.C _, hback⟩
          simp only [WS, List.getElem_cons_zero, List.getElem_cons_succ, Option.isNone_some, Option.isNone_none, List.getD_cons_zero, List.getD_cons_succ, I.at, atL, atO, atP, evp, evs, retV, ↓reduceIte, Nat.reduceEqDiff, reduceCtorEq, t0, t9, t13, t58, t59, show decide ((la.length : Int) < (la.length : Int)) = false from decide_eq_false (by omega)]
          exact ⟨hB6, Or.inl ⟨hsz.1, hsz.2, sa, ms, rfl, oa, htr, hdm.trans d1, hdm.trans d2, ⟨Ps.C c * p, Ps.C c * q, (Pol.C c).mul hp, (Pol.C c).mul hq, by rw [hco, hla, Ps.mul_add, Ps.mul_assoc, Ps.mul_assoc]⟩, fun _ => htop1, by omega⟩⟩
    · have hlen := len_tr tb
      have hlna := len_tr ta
      simp only [WS, List.getElem_cons_zero, List.getElem_cons_succ, Option.isNone_some, Option.isNone_none, List.getD_cons_zero, List.getD_cons_succ, I.at, atL, atO, atP, evp, evs, retV, ↓reduceIte, Nat.reduceEqDiff, reduceCtorEq, t0, t9, t10, ob.sl.Xlen, show decide ((0 : Int) < (lb.length : Int)) = true from decide_eq_true (by omega)]
      refine X_call0 ((polys_Ring_b_divided_spec w4 _ sa sb la lb (hr.up hB4) oa.sl ob.sl (by omega) (by omega) (by omega)).mono ?_)
      rintro _ w5 ⟨sq, sm, qq, m, rfl, oq, om, tq, tm, hco, hml, hql, hB5⟩
      simp only [WS, List.getElem_cons_zero, List.getElem_cons_succ, Option.isNone_some, Option.isNone_none, List.getD_cons_zero, List.getD_cons_succ, I.at, atL, atO, atP, evp, evs, retV, ↓reduceIte, Nat.reduceEqDiff, reduceCtorEq, t0, t9, t10]
      have hm : co m = co la + co qq * co lb := by rw [hco]; generalize co qq * co lb = A; rw [show A + co m + A = co m + (A + A) by ac_rfl, Ps.add_self, Ps.add_zero]
      refine ⟨⟨hB4.trans (hB5.mono hB4.size), sb, sm, lb, m, rfl, rfl, ob.up hB5, om.mono hB4.size, tb, tm, ⟨p', q', hp', hq', hlb⟩, ⟨p + co qq * p', q + co qq * q', hp.add ((Pol.of qq).mul hp'), hq.add ((Pol.of qq).mul hq'), ?_⟩, fun d h3 h4 => ?_, hnb, by omega⟩, ?_⟩
      · rw [hm, hla, hlb, Ps.mul_add, Ps.add_mul, Ps.add_mul, Ps.mul_assoc, Ps.mul_assoc]; ac_rfl
      · exact hdv d (by rw [hco]; exact (h3.mul (Pol.of qq)).add h4) h3
      · obtain ⟨a1, c1, e3, -, -⟩ := om.sl.sh
        obtain ⟨a2, c2, e4, -, -⟩ := ob.sl.sh
        rw [e3, e4]
        show m.length < lb.length
        omega
  · rw [if_neg (fun e => hsz (hiff.mp e))]
    simp only [WS, List.getElem_cons_zero, List.getElem_cons_succ, Option.isNone_some, Option.isNone_none, List.getD_cons_zero, List.getD_cons_succ, I.at, atL, atO, atP, evp, evs, retV, ↓reduceIte, Nat.reduceEqDiff, reduceCtorEq, show decide ((5 : Int) = 0) = false from rfl]
    exact ⟨hB, Or.inr hsz⟩
end Go.Proofs.Ytcdagkcchfibjaa.Fw

set_option linter.unusedVariables false
set_option linter.unusedSimpArgs false
set_option maxRecDepth 100000
set_option maxHeartbeats 1000000
namespace Go.Proofs.Ytcdagkcchfibjaa.Fw
open Go Go.Fw Go.Proofs
attribute [local irreducible] stepI
end Go.Proofs.Ytcdagkcchfibjaa.Fw
namespace Go.Proofs.Ytcdagkcchfibjaa.Fw
open Go Go.Fw
end Go.Proofs.Ytcdagkcchfibjaa.Fw

/- Euclid's way with its factors. Plain maths. -/
set_option linter.unusedVariables false
set_option linter.unusedSectionVars false
namespace Go.Fw
variable {n : Nat} [F : Fd n]
theorem tr_nil : tr ([] : List (El n)) = [] := rfl
theorem tr_one : tr [(1 : El n)] = [1] := by unfold tr; simp [tln, El.one_ne]
theorem co_one : co [(1 : El n)] = 1 := Ps.ext fun k => by
  rcases k with _ | k
  · rfl
  · rfl
theorem len_top {a : List (El n)} (h : tr a = a) (h0 : a ≠ []) : (co a).c (a.length - 1) ≠ 0 := by
  have := len_tr h
  have hp : 0 < a.length := List.length_pos_iff.2 h0
  exact tln_top a (a.length - 1) (by omega)
theorem len_of {a : List (El n)} {k : Nat} (h : tr a = a) (h1 : Dg (co a) k) (h2 : k = 0 ∨ (co a).c (k - 1) ≠ 0) : a.length = k := by rw [len_tr h, tln_of h1 h2]
theorem len_le {a : List (El n)} {k : Nat} (h : tr a = a) (h1 : Dg (co a) k) : a.length ≤ k := by
  refine Nat.le_of_not_lt fun h2 => ?_
  have h0 : a ≠ [] := by rintro rfl; simp at h2
  exact len_top h h0 (h1 _ (by omega))
/-- A product that is not 0 and a summand of a lower degree. -/
theorem sum_len {s' u q s : List (El n)} (hs' : tr s' = s') (hq : tr q = q) (hs : tr s = s) (he : co s' = co u + co q * co s) (hq0 : q ≠ []) (hs0 : s ≠ []) (hu : u.length + 1 < q.length + s.length) : s'.length + 1 = q.length + s.length := by
  have hql : 0 < q.length := List.length_pos_iff.2 hq0
  have hsl : 0 < s.length := List.length_pos_iff.2 hs0
  have : s'.length = q.length + s.length - 1 := by
    refine len_of hs' ?_ (Or.inr ?_)
    · rw [he]
      exact ((co_dg u).mono (by omega)).add ((co_dg q).mul (co_dg s))
    · rw [he, Ps.add_c, co_dg u _ (by omega), El.zero_add]
      have h1 : Dg (co q) (q.length - 1 + 1) := (co_dg q).mono (by omega)
      have h2 : Dg (co s) (s.length - 1 + 1) := (co_dg s).mono (by omega)
      have h3 := Ps.mul_top h1 h2
      rw [show q.length + s.length - 1 - 1 = q.length - 1 + (s.length - 1) by omega, h3]
      exact fun e => (El.mul_eq_zero.1 e).elim (len_top hq hq0) (len_top hs hs0)
  omega
theorem quo_len {a q b m : List (El n)} (ha : tr a = a) (hq : tr q = q) (hb : tr b = b) (he : co a = co q * co b + co m) (hm : m.length < b.length) (hl : b.length ≤ a.length) : q.length + b.length = a.length + 1 := by
  have hb0 : b ≠ [] := by rintro rfl; simp at hm
  by_cases hq0 : q = []
  · subst hq0
    have : a.length ≤ m.length := len_le ha (by rw [he, co_nil, Ps.zero_mul, Ps.zero_add]; exact co_dg m)
    omega
  · have hql : 0 < q.length := List.length_pos_iff.2 hq0
    have := sum_len (u := m) ha hq hb (by rw [he, Ps.add_comm]) hq0 hb0 (by omega)
    omega
theorem quo_zero {a q b m : List (El n)} (ha : tr a = a) (hq : tr q = q) (hb : tr b = b) (he : co a = co q * co b + co m) (hm : m.length < b.length) (hl : a.length < b.length) : q = [] := by
  have hb0 : b ≠ [] := by rintro rfl; simp at hm
  refine Classical.byContradiction fun hq0 => ?_
  have hql : 0 < q.length := List.length_pos_iff.2 hq0
  have := sum_len (u := m) ha hq hb (by rw [he, Ps.add_comm]) hq0 hb0 (by omega)
  omega
theorem div_uniq {a b q m q' m' : List (El n)} (hq : tr q = q) (hm : tr m = m) (hq' : tr q' = q') (hm' : tr m' = m') (he : co a = co q * co b + co m) (he' : co a = co q' * co b + co m') (hl : m.length < tln b) (hl' : m'.length < tln b) : q = q' ∧ m = m' := by
  have h : (co q + co q') * co b = co m + co m' := by
    have h1 : co q * co b + co m + (co q' * co b + co m') = 0 := by rw [← he, ← he', Ps.add_self]
    have h2 : (co q + co q') * co b + (co m + co m') = 0 := by rw [← h1, Ps.add_mul]; ac_rfl
    exact Ps.eq_of_add h2
  obtain ⟨d, hd⟩ := ((Pol.of q).add (Pol.of q'))
  have hmm : Dg (co m + co m') (tln b - 1) := ((co_dg m).mono (by omega)).add ((co_dg m').mono (by omega))
  by_cases h0 : tln d = 0
  · have e := co_zero_of_tln h0
    rw [hd] at e
    rw [e, Ps.zero_mul] at h
    exact ⟨tr_inj hq hq' (Ps.eq_of_add e), tr_inj hm hm' (Ps.eq_of_add h.symm)⟩
  · exfalso
    have hp : Pol (co d * co b) := (Pol.of d).mul (Pol.of b)
    obtain ⟨p, hp⟩ := hp
    have h3 := tln_mul hp h0 (by omega)
    have h4 : Dg (co p) (tln b - 1) := by rw [hp, hd, h]; exact hmm
    exact tln_top p (tln p - 1) (by omega) (h4 _ (by omega))
/-- Euclid's way from a and b on, with the factors u, v of a and s, t of b: what it ends with. -/
inductive Eu (d : Nat) : List (El n) → List (El n) → List (El n) → List (El n) → List (El n) → List (El n) → List (El n) → List (El n) → List (El n) → Prop
  | stop {a b u v s t} : a.length ≤ d → Eu d a b u v s t a u v
  | zero {a u v s t} : d < a.length → Eu d a [] u v s t [] s t
  | step {a b u v s t q m s' t' x y z} : d < a.length → b ≠ [] → tr q = q → tr m = m → co a = co q * co b + co m → m.length < b.length → tr s' = s' → co s' = co u + co q * co s → tr t' = t' → co t' = co v + co q * co t →
      Eu d b m s t s' t' x y z → Eu d a b u v s t x y z
theorem Eu.det {d : Nat} {a b u v s t x y z x' y' z' : List (El n)} (h : Eu d a b u v s t x y z) (hb : tr b = b) (h' : Eu d a b u v s t x' y' z') : x = x' ∧ y = y' ∧ z = z' := by
  induction h with
  | stop h1 => cases h' with
    | stop => exact ⟨rfl, rfl, rfl⟩
    | zero h => omega
    | step h => omega
  | zero h1 => cases h' with
    | stop h => omega
    | zero => exact ⟨rfl, rfl, rfl⟩
    | step _ h => exact absurd rfl h
  | step h1 h2 h3 h4 h5 h6 h7 h8 h9 h10 h11 ih => cases h' with
    | stop h => omega
    | zero => exact absurd rfl h2
    | step g1 g2 g3 g4 g5 g6 g7 g8 g9 g10 g11 =>
      have hl := len_tr hb
      obtain ⟨rfl, rfl⟩ := div_uniq h3 h4 g3 g4 h5 g5 (by omega) (by omega)
      obtain rfl := tr_inj h7 g7 (by rw [h8, g8])
      obtain rfl := tr_inj h9 g9 (by rw [h10, g10])
      exact ih h4 g11
/-- What Partial answers. -/
structure Part (f g : Ps n) (d : Nat) (m u v : List (El n)) : Prop where
  tm : tr m = m
  tu : tr u = u
  tv : tr v = v
  eq : co m = co u * f + co v * g
  lm : m.length ≤ d
  cop : ∃ p q, Pol p ∧ Pol q ∧ p * co u + q * co v = 1
theorem Eu.part {d : Nat} {f g : Ps n} {a b u v s t x y z : List (El n)} (h : Eu d a b u v s t x y z) (ha : tr a = a) (hb : tr b = b) (hu : tr u = u) (hv : tr v = v) (hs : tr s = s) (ht : tr t = t)
    (ea : co a = co u * f + co v * g) (eb : co b = co s * f + co t * g) (e1 : co u * co t + co v * co s = 1) : Part f g d x y z := by
  induction h with
  | @stop a b u v s t h1 => exact ⟨ha, hu, hv, ea, h1, co t, co s, Pol.of _, Pol.of _, by rw [← e1]; ac_rfl⟩
  | @zero a u v s t h1 => exact ⟨rfl, hs, ht, eb, by simp, co v, co u, Pol.of _, Pol.of _, by rw [← e1]; ac_rfl⟩
  | @step a b u v s t q m s' t' x y z h1 h2 h3 h4 h5 h6 h7 h8 h9 h10 h11 ih =>
    have hm : co m = co a + co q * co b := by rw [h5]; generalize co q * co b = A; rw [show A + co m + A = co m + (A + A) by ac_rfl, Ps.add_self, Ps.add_zero]
    refine ih hb h4 hs ht h7 h9 eb ?_ ?_
    · rw [hm, ea, eb, h8, h10, Ps.mul_add, Ps.add_mul, Ps.add_mul, Ps.mul_assoc, Ps.mul_assoc]; ac_rfl
    · rw [h8, h10, Ps.mul_add, Ps.mul_add, ← e1]
      rw [show co s * co v + co s * (co q * co t) + (co t * co u + co t * (co q * co s)) = (co u * co t + co v * co s) + (co s * (co q * co t) + co s * (co q * co t)) by
        rw [show co t * (co q * co s) = co s * (co q * co t) by ac_rfl, Ps.mul_comm (co s) (co v), Ps.mul_comm (co t) (co u)]; ac_rfl, Ps.add_self, Ps.add_zero]
theorem Eu.degs {d nF nG : Nat} {a b u v s t x y z : List (El n)} (h : Eu d a b u v s t x y z) (ha : tr a = a) (hb : tr b = b) (hs : tr s = s) (ht : tr t = t) (hba : b.length < a.length)
    (h1 : s.length + a.length = nG + 1) (h2 : u.length ≤ s.length) (h3 : t.length + a.length = nF + 1) (h4 : v.length ≤ t.length) (h5 : v.length + d ≤ nF) (h6 : a.length ≤ nG) (h7 : a.length ≤ nF) : y.length ≤ nG ∧ z.length ≤ nF ∧ z.length + d ≤ nF := by
  induction h with
  | @stop a b u v s t g1 => omega
  | @zero a u v s t g1 => omega
  | @step a b u v s t q m s' t' x y z g1 g2 g3 g4 g5 g6 g7 g8 g9 g10 g11 ih =>
    have hq := quo_len ha g3 hb g5 g6 (by omega)
    have hq0 : q ≠ [] := by rintro rfl; simp at hq; omega
    have e1 := sum_len g7 g3 hs g8 hq0 (by rintro rfl; simp at h1; omega) (by omega)
    have e2 := sum_len g9 g3 ht g10 hq0 (by rintro rfl; simp at h3; omega) (by omega)
    exact ih hb g4 g7 g9 g6 (by omega) (by omega) (by omega) (by omega) (by omega) (by omega) (by omega)
theorem Eu.mlen {d N : Nat} {a b u v s t x y z : List (El n)} (h : Eu d a b u v s t x y z) (ha : a.length ≤ N) (hb : b.length ≤ N) : x.length ≤ N := by
  induction h with
  | stop => exact ha
  | zero => simp
  | step g1 g2 g3 g4 g5 g6 g7 g8 g9 g10 g11 ih => exact ih hb (by omega)
/-- The whole way. -/
theorem Eu.lens {d : Nat} {f g x y z : List (El n)} (h : Eu d (tr f) (tr g) [1] [] [] [1] x y z) :
    y.length ≤ max 1 (tln g) ∧ z.length ≤ max 1 (tln f) ∧ (tln f ≤ d → x = tr f ∧ z = []) ∧ (d < tln f → tln g < tln f → z.length + d ≤ tln f) := by
  have tf := tr_len f
  have tg := tr_len g
  generalize hF : tr f = A at h tf
  generalize hG : tr g = B at h tg
  have hA : tr A = A := by rw [← hF]; exact tr_tr f
  have hB : tr B = B := by rw [← hG]; exact tr_tr g
  cases h with
  | stop h1 => exact ⟨by simp; omega, by simp, fun _ => ⟨rfl, rfl⟩, fun h => by omega⟩
  | zero h1 => exact ⟨by simp, by simp; omega, fun h => by omega, fun _ _ => by simp; omega⟩
  | @step _ _ _ _ _ _ q m s' t' _ _ _ h1 h2 h3 h4 h5 h6 h7 h8 h9 h10 h11 =>
    have hs' : s' = [1] := tr_inj h7 tr_one (by rw [h8, co_nil, Ps.mul_zero, Ps.add_zero])
    have ht' : t' = q := tr_inj h9 h3 (by rw [h10, co_nil, co_one, Ps.mul_one, Ps.zero_add])
    subst hs' ht'
    by_cases hl : B.length ≤ A.length
    · have hq := quo_len hA h3 hB h5 h6 hl
      obtain ⟨r1, r2, r3⟩ := h11.degs (nF := A.length) (nG := B.length) hB h4 tr_one h3 h6 (by simp; omega) (by simp) (by omega) (by simp; omega) (by simp; omega) (by omega) hl
      exact ⟨by omega, by omega, fun h => by omega, fun _ _ => by omega⟩
    · have hq := quo_zero hA h3 hB h5 h6 (by omega)
      subst hq
      have hm : m = A := tr_inj h4 hA (by rw [h5, co_nil, Ps.zero_mul, Ps.zero_add])
      subst hm
      cases h11 with
      | stop h1 => exact ⟨by simp, by simp; omega, fun h => by omega, fun _ _ => by omega⟩
      | zero _ => simp at h1
      | @step _ _ _ _ _ _ q m' s' t' _ _ _ k1 k2 k3 k4 k5 k6 k7 k8 k9 k10 k11 =>
        have ht' : t' = [1] := tr_inj k9 tr_one (by rw [k10, co_nil, Ps.mul_zero, Ps.add_zero])
        have hs' : s' = q := tr_inj k7 k3 (by rw [k8, co_nil, co_one, Ps.mul_one, Ps.zero_add])
        subst hs' ht'
        have hq := quo_len hB k3 hA k5 k6 (by omega)
        obtain ⟨r1, r2, r3⟩ := k11.degs (nF := m.length) (nG := B.length) hA k4 k3 tr_one k6 (by omega) (by simp; omega) (by simp; omega) (by simp) (by simp; omega) (by omega) (by omega)
        exact ⟨by omega, by omega, fun h => by omega, fun _ _ => by omega⟩
theorem Eu.whole {d : Nat} {f g x y z : List (El n)} (h : Eu d (tr f) (tr g) [1] [] [] [1] x y z) : Part (co f) (co g) d x y z :=
  h.part (tr_tr f) (tr_tr g) tr_one tr_nil tr_nil tr_one (by rw [tr_co, co_one, co_nil, Ps.one_mul, Ps.zero_mul, Ps.add_zero]) (by rw [tr_co, co_one, co_nil, Ps.one_mul, Ps.zero_mul, Ps.zero_add]) (by rw [co_one, co_nil, Ps.one_mul, Ps.zero_mul, Ps.add_zero])
end Go.Fw
