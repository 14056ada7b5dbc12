import Derived.Test.YtbaljbadlfopgaaProg
import Derived.Test.YtbaljbadlfopgaaFwTK
import Derived.Test.YtbaljbadlfopgaaSMnbK
import Derived.Test.YtbaljbadlfopgaaGfLK
import Derived.Test.YtbaljbadlfopgaaGfXK
set_option linter.all false
set_option linter.unusedVariables false
set_option linter.unusedSimpArgs false
set_option maxRecDepth 100000
set_option maxHeartbeats 1000000
namespace Go.Proofs.Ytbaljbadlfopgaa.Fw
open Go Go.Fw Go.Proofs
attribute [local irreducible] stepI
def c_polys_Ring_b_DivMod : C := .seq (.ops [⟨0, (some 6), none, .mov (.c (.slice none 0 0)), []⟩, ⟨1, (some 7), none, .mov (.c (.slice none 0 0)), []⟩, ⟨2, (some 8), none, .mov (.c (.int .i64 0)), []⟩]) (.seq (.seq (.ops [⟨0, (some 10), none, .mov (.t 0), []⟩, ⟨1, (some 11), none, .mov (.t 1), []⟩, ⟨2, (some 12), none, .mov (.t 2), []⟩, ⟨3, (some 13), none, .bsl 25 2 [.slice none 0 0] [(0, (1, .t 11)), (1, (1, .t 12))], []⟩, ⟨4, (some 14), none, .call (.c (.func (.func 87) #[] #[])) [.t 10, .t 13], []⟩, ⟨5, (some 9), none, .mov (.t 14), []⟩]) (.seq (.ops [⟨0, (some 15), none, .mov (.t 9), []⟩, ⟨1, (some 16), none, .bin .neq (.t 15) (.c (.int .i64 0)), []⟩]) (.ite (.t 16) (.seq (.ops [⟨0, (some 17), none, .mov (.t 9), []⟩, ⟨1, (some 6), none, .mov (.c (.slice none 0 0)), []⟩, ⟨2, (some 7), none, .mov (.c (.slice none 0 0)), []⟩, ⟨3, (some 8), none, .mov (.t 17), []⟩]) .ret) .skip))) (.seq (.seq (.ops [⟨0, (some 18), none, .mov (.t 2), []⟩, ⟨1, (some 19), none, .call (.c (.func (.func 130) #[] #[])) [.t 18], []⟩, ⟨2, (some 20), none, .bin .lss (.t 19) (.c (.int .i64 0)), []⟩]) (.ite (.t 20) (.seq (.ops [⟨0, (some 6), none, .mov (.c (.slice none 0 0)), []⟩, ⟨1, (some 7), none, .mov (.c (.slice none 0 0)), []⟩, ⟨2, (some 8), none, .mov (.c (.int .i64 40)), []⟩]) .ret) .skip)) (.seq (.ops [⟨0, (some 22), none, .mov (.t 0), []⟩, ⟨1, (some 23), none, .mov (.t 1), []⟩, ⟨2, (some 24), none, .mov (.t 2), []⟩, ⟨3, (some 25), none, .call (.c (.func (.func 127) #[] #[])) [.t 22, .t 23, .t 24], []⟩, ⟨4, (some 21), none, .mov (.t 25), []⟩, ⟨5, (some 26), none, .ext (.t 21) 0, []⟩, ⟨6, (some 27), none, .ext (.t 21) 1, []⟩, ⟨7, (some 6), none, .mov (.t 26), []⟩, ⟨8, (some 7), none, .mov (.t 27), []⟩]) (.seq (.ops [⟨0, (some 28), none, .mov (.t 6), []⟩, ⟨1, (some 29), none, .mov (.t 7), []⟩, ⟨2, (some 6), none, .mov (.t 28), []⟩, ⟨3, (some 7), none, .mov (.t 29), []⟩, ⟨4, (some 8), none, .mov (.c (.int .i64 0)), []⟩]) .ret))))
attribute [irreducible] c_polys_Ring_b_DivMod
theorem run_polys_Ring_b_DivMod {args : List Value} {w : World} {K : Value → World → Prop} (hn : args.length ≤ 30) (h : WP Try.prog c_polys_Ring_b_DivMod (endQ [.t 6, .t 7, .t 8] K) (initT args) w) : CallV Try.prog 91 args w K :=
  call_of follows Try.func91 (by kernel_rfl) (by kernel_rfl) hn h
def c_polys_Ring_b_divided : C := .seq (.ops [⟨0, (some 6), none, .mov (.c (.slice none 0 0)), []⟩, ⟨1, (some 7), none, .mov (.c (.slice none 0 0)), []⟩]) (.seq (.ops [⟨0, (some 14), none, .mov (.t 1), []⟩, ⟨1, (some 15), none, .call (.c (.func (.func 125) #[] #[])) [.t 14], []⟩, ⟨2, (some 7), none, .mov (.t 15), []⟩]) (.seq (.ops [⟨0, (some 16), none, .mov (.t 2), []⟩, ⟨1, (some 17), none, .call (.c (.func (.func 130) #[] #[])) [.t 16], []⟩, ⟨2, (some 8), none, .mov (.t 17), []⟩]) (.seq (.dops [⟨0, (some 19), none, .mov (.t 0), []⟩, ⟨1, (some 20), none, .nil (.t 19), []⟩, ⟨2, (some 21), none, .fad 1 (.t 20), []⟩, ⟨3, (some 22), none, .ld (.t 21), []⟩, ⟨4, (some 23), none, .mov (.t 2), []⟩, ⟨5, (some 24), none, .mov (.t 8), []⟩, ⟨6, (some 25), none, .ixs 1 (.t 23) (.t 24), []⟩, ⟨7, (some 26), none, .ld (.t 25), []⟩, ⟨8, (some 27), none, .call (.t 22) [.t 26], []⟩, ⟨9, (some 18), none, .mov (.t 27), []⟩, ⟨10, (some 28), none, .ext (.t 18) 0, []⟩, ⟨11, (some 29), none, .ext (.t 18) 1, []⟩, ⟨12, (some 9), none, .mov (.t 28), []⟩, ⟨13, (some 10), none, .mov (.t 29), []⟩]) (.seq (.seq (.ops [⟨0, (some 30), none, .mov (.t 7), []⟩, ⟨1, (some 31), none, .len (.t 30), []⟩, ⟨2, (some 32), none, .mov (.t 8), []⟩, ⟨3, (some 33), none, .bin .gtr (.t 31) (.t 32), []⟩]) (.ite (.t 33) (.ops [⟨0, (some 34), none, .mov (.t 7), []⟩, ⟨1, (some 35), none, .len (.t 34), []⟩, ⟨2, (some 36), none, .mov (.t 8), []⟩, ⟨3, (some 37), none, .bin .sub (.t 35) (.t 36), []⟩, ⟨4, (some 38), none, .mks 5 1 [.int .u8 0] (.t 37) (.t 37), []⟩, ⟨5, (some 6), none, .mov (.t 38), []⟩]) .skip)) (.seq (.seq (.ops [⟨0, (some 39), none, .mov (.t 7), []⟩, ⟨1, (some 40), none, .len (.t 39), []⟩, ⟨2, (some 41), none, .bin .sub (.t 40) (.c (.int .i64 1)), []⟩, ⟨3, (some 42), none, .mov (.t 8), []⟩, ⟨4, (some 43), none, .bin .sub (.t 41) (.t 42), []⟩, ⟨5, (some 11), none, .mov (.t 43), []⟩]) (.block 0 (.loop (.seq (.seq (.ops [⟨0, (some 44), none, .mov (.t 11), []⟩, ⟨1, (some 45), none, .bin .geq (.t 44) (.c (.int .i64 0)), []⟩]) (.ite (.t 45) .skip (.exit 0))) (.seq (.block 1 (.seq (.dops [⟨0, (some 48), none, .mov (.t 0), []⟩, ⟨1, (some 49), none, .nil (.t 48), []⟩, ⟨2, (some 50), none, .fad 0 (.t 49), []⟩, ⟨3, (some 51), none, .ld (.t 50), []⟩, ⟨4, (some 52), none, .mov (.t 7), []⟩, ⟨5, (some 53), none, .mov (.t 11), []⟩, ⟨6, (some 54), none, .mov (.t 8), []⟩, ⟨7, (some 55), none, .bin .add (.t 53) (.t 54), []⟩, ⟨8, (some 56), none, .ixs 1 (.t 52) (.t 55), []⟩, ⟨9, (some 57), none, .ld (.t 56), []⟩, ⟨10, (some 58), none, .mov (.t 9), []⟩, ⟨11, (some 59), none, .call (.t 51) [.t 57, .t 58], []⟩, ⟨12, (some 12), none, .mov (.t 59), []⟩]) (.seq (.ops [⟨0, (some 60), none, .mov (.t 6), []⟩, ⟨1, (some 61), none, .mov (.t 11), []⟩, ⟨2, (some 62), none, .mov (.t 12), []⟩, ⟨3, (some 63), none, .ixs 1 (.t 60) (.t 61), []⟩, ⟨4, none, none, .st (.t 63) (.t 62), []⟩]) (.seq (.seq (.ops [⟨0, (some 64), none, .mov (.t 12), []⟩, ⟨1, (some 65), none, .bin .eql (.t 64) (.c (.int .u8 0)), []⟩]) (.ite (.t 65) (.exit 1) .skip)) (.seq (.ops [⟨0, (some 66), none, .mov (.t 8), []⟩, ⟨1, (some 67), none, .bin .add (.t 66) (.c (.int .i64 1)), []⟩, ⟨2, (some 68), none, .mov (.c (.int .i64 0)), []⟩]) (.block 2 (.loop (.seq (.ops [⟨0, (some 69), none, .bin .lss (.t 68) (.t 67), []⟩]) (.seq (.ite (.t 69) .skip (.exit 2)) (.seq (.block 3 (.seq (.ops [⟨0, (some 70), none, .mov (.t 68), []⟩, ⟨1, (some 13), none, .mov (.t 70), []⟩]) (.dops [⟨0, (some 71), none, .mov (.t 7), []⟩, ⟨1, (some 72), none, .mov (.t 11), []⟩, ⟨2, (some 73), none, .mov (.t 13), []⟩, ⟨3, (some 74), none, .bin .add (.t 72) (.t 73), []⟩, ⟨4, (some 75), none, .ixs 1 (.t 71) (.t 74), []⟩, ⟨5, (some 76), none, .ld (.t 75), []⟩, ⟨6, (some 77), none, .mov (.t 0), []⟩, ⟨7, (some 78), none, .nil (.t 77), []⟩, ⟨8, (some 79), none, .fad 0 (.t 78), []⟩, ⟨9, (some 80), none, .ld (.t 79), []⟩, ⟨10, (some 81), none, .mov (.t 12), []⟩, ⟨11, (some 82), none, .mov (.t 2), []⟩, ⟨12, (some 83), none, .mov (.t 13), []⟩, ⟨13, (some 84), none, .ixs 1 (.t 82) (.t 83), []⟩, ⟨14, (some 85), none, .ld (.t 84), []⟩, ⟨15, (some 86), none, .call (.t 80) [.t 81, .t 85], [5]⟩, ⟨16, (some 87), none, .bin .xor (.t 76) (.t 86), []⟩, ⟨17, (some 88), none, .ixs 1 (.t 71) (.t 74), []⟩, ⟨18, none, none, .st (.t 88) (.t 87), []⟩]))) (.ops [⟨0, (some 89), none, .bin .add (.t 68) (.c (.int .i64 1)), []⟩, ⟨1, (some 68), none, .mov (.t 89), []⟩]))))))))))) (.ops [⟨0, (some 46), none, .mov (.t 11), []⟩, ⟨1, (some 47), none, .bin .sub (.t 46) (.c (.int .i64 1)), []⟩, ⟨2, (some 11), none, .mov (.t 47), []⟩])))))) (.seq (.ops [⟨0, (some 90), none, .mov (.t 6), []⟩, ⟨1, (some 91), none, .mov (.t 7), []⟩, ⟨2, (some 92), none, .call (.c (.func (.func 125) #[] #[])) [.t 91], []⟩, ⟨3, (some 6), none, .mov (.t 90), []⟩, ⟨4, (some 7), none, .mov (.t 92), []⟩]) .ret))))))
attribute [irreducible] c_polys_Ring_b_divided
theorem run_polys_Ring_b_divided {args : List Value} {w : World} {K : Value → World → Prop} (hn : args.length ≤ 93) (h : WP Try.prog c_polys_Ring_b_divided (endQ [.t 6, .t 7] K) (initT args) w) : CallV Try.prog 127 args w K :=
  call_of follows Try.func127 (by kernel_rfl) (by kernel_rfl) hn h
end Go.Proofs.Ytbaljbadlfopgaa.Fw
namespace Go.Proofs.Ytbaljbadlfopgaa.Fw
open Go Go.Fw
theorem co_set_mono8 (l : List (El 8)) {i : Nat} (h : i < l.length) (x : El 8) (h0 : l[i] = 0) : co (l.set i x) = co l + Ps.mono i x := Ps.ext fun k => by
  rw [co_set l h, Ps.add_c]
  show _ = _ + (if k = i then x else 0)
  by_cases hk : k = i
  · subst hk; rw [if_pos rfl, if_pos rfl, co_get l h, h0, El.zero_add]
  · rw [if_neg hk, if_neg hk, El.add_zero]
theorem polys_Ring_b_divided_spec (w : World) (r s1 s2 : Value) (l1 l2 : List (El 8)) (hr : Ring_b w r) (h1 : Sl w s1 l1) (h2 : Sl w s2 l2) (hb1 : l1.length ≤ 70368744175616) (hb2 : l2.length ≤ 70368744175616) (hg0 : tln l2 ≠ 0) :
    CallV Try.prog 127 [r, s1, s2] w fun v w' => ∃ sq sm q m, v = .tuple #[sq, sm] ∧ Ow w.heap.size w' sq q ∧ Ow w.heap.size w' sm m ∧ tr q = q ∧ tr m = m ∧ co l1 = co q * co l2 + co m ∧ m.length < tln l2 ∧ q.length = tln l1 - (tln l2 - 1) ∧ RowKit.Below w.heap.size w w' := by
  have hle1 := tln_le l1
  have hle2 := tln_le l2
  have h2w := h2
  obtain ⟨d, hd⟩ : ∃ d, tln l2 = d + 1 := ⟨tln l2 - 1, by omega⟩
  have hdl : d < l2.length := by omega
  have htop : l2[d] ≠ 0 := by rw [← co_get l2 hdl]; exact tln_top l2 d hd
  refine run_polys_Ring_b_divided (by simp) ?_
  simp only [c_polys_Ring_b_divided, WS, List.getElem_cons_zero, List.getElem_cons_succ, Option.isNone_some, Option.isNone_none, List.getD_cons_zero, List.getD_cons_succ, I.at, atL, atO, atP, evp, evs, retV, ↓reduceIte, Nat.reduceEqDiff, reduceCtorEq]
  refine X_call0 ((polys_copied_b_spec w s1 l1 h1 hb1).mono ?_)
  rintro sm w1 ⟨om, hB1⟩
  have h2 := h2.up hB1
  have hr1 := hr.up hB1
  simp only [WS, List.getElem_cons_zero, List.getElem_cons_succ, Option.isNone_some, Option.isNone_none, List.getD_cons_zero, List.getD_cons_succ, I.at, atL, atO, atP, evp, evs, retV, ↓reduceIte, Nat.reduceEqDiff, reduceCtorEq]
  refine X_call0 ((polys_degree_b_spec w1 s2 l2 h2 hb2).mono ?_)
  rintro v w' ⟨rfl, rfl⟩
  have ed : ((tln l2 : Int) - 1) = (d : Int) := by omega
  rw [ed]
  obtain ⟨b, mv, iv, rfl, hrow, hm, hi⟩ := id hr1
  simp only [WS, List.getElem_cons_zero, List.getElem_cons_succ, Option.isNone_some, Option.isNone_none, List.getD_cons_zero, List.getD_cons_succ, I.at, atL, atO, atP, evp, evs, retV, ↓reduceIte, Nat.reduceEqDiff, reduceCtorEq]
  refine WP_dops ?_
  have h2d := h2.drew
  simp only [ES, List.mem_cons, List.not_mem_nil, implies_true, forall_const, WS, List.getElem_cons_zero, List.getElem_cons_succ, Option.isNone_some, Option.isNone_none, List.getD_cons_zero, List.getD_cons_succ, I.at, atL, atO, atP, evp, evs, retV, ↓reduceIte, Nat.reduceEqDiff, reduceCtorEq, addr_add0, Nat.zero_add, hrow.drew.Eld (show 1 < [mv, iv].length by simp), h2d.Eix hdl, h2d.Eld hdl, cell_e8]
  refine E_callK (Inv_b.call (w := w'.drew) hi _ htop fun w2 hl => ?_)
  have hL : Like w' w2 := (Like.drew w').trans hl
  have om := hL.ow om
  have B2 : RowKit.Below w.heap.size w w2 := hL.bel hB1 hB1.size
  have hr2 : Ring_b w2 (.pointer (some ⟨b, 0, none⟩)) := hr1.up hL.1
  have h2 := hL.sl h2
  have hml : (tr l1).length = tln l1 := tr_len l1
  simp only [ES, List.mem_cons, List.not_mem_nil, implies_true, forall_const, WS, List.getElem_cons_zero, List.getElem_cons_succ, Option.isNone_some, Option.isNone_none, List.getD_cons_zero, List.getD_cons_succ, I.at, atL, atO, atP, evp, evs, retV, ↓reduceIte, Nat.reduceEqDiff, reduceCtorEq, om.sl.Xlen, hml]
  generalize hc : (l2[d]).inv = c
  have hgc : l2[d] * c = 1 := by rw [← hc]; exact El.mul_inv _ htop
  clear hrow hm hi h2d hL hl hr1 hB1
  have fin : ∀ (q m : List (El 8)) (sq : Value) (w5 : World), q.length = tln l1 - d → m.length = tln l1 → co l1 = co q * co l2 + co m → Dg (co m) d → Ow w.heap.size w5 sq q → Ow w.heap.size w5 sm m → RowKit.Below w.heap.size w w5 →
      CallV Try.prog 125 [sm] w5 fun v w' => ∃ sq' sm' q m, Value.tuple #[sq, v] = .tuple #[sq', sm'] ∧ Ow w.heap.size w' sq' q ∧ Ow w.heap.size w' sm' m ∧ tr q = q ∧ tr m = m ∧ co l1 = co q * co l2 + co m ∧ m.length < tln l2 ∧ q.length = tln l1 - (tln l2 - 1) ∧ RowKit.Below w.heap.size w w' := by
    intro q m sq w5 hq hm he hdm oq om hB
    refine (polys_copied_b_spec w5 sm m om.sl (by omega)).mono ?_
    rintro v w6 ⟨o6, hB6⟩
    have htm : tln m ≤ d := by
      refine Nat.le_of_not_lt fun h => ?_
      exact tln_top m (tln m - 1) (by omega) (hdm _ (by omega))
    have htq : tr q = q := by
      by_cases h0 : tln l1 ≤ d
      · have : q = [] := List.eq_nil_of_length_eq_zero (by omega)
        rw [this]; rfl
      · have : tln q = q.length := by
          refine Nat.le_antisymm (tln_le q) (Nat.le_of_not_lt fun h => ?_)
          have g1 : Dg (co q * co l2) (tln l1 - 1) := ((tln_dg q).mul (tln_dg l2)).mono (by omega)
          have g2 : Dg (co l1) (tln l1 - 1) := by rw [he]; exact g1.add (hdm.mono (by omega))
          exact tln_top l1 (tln l1 - 1) (by omega) (g2 _ (Nat.le_refl _))
        unfold tr; rw [this, List.take_length]
    refine ⟨sq, v, q, tr m, rfl, oq.up hB6, o6.mono hB.size, htq, tr_tr m, by rw [tr_co]; exact he, by rw [tr_len]; omega, by omega, hB.trans (hB6.mono hB.size)⟩
  by_cases had : tln l1 ≤ d
  · have e3 : IntKind.i64.wrap ((tln l1 : Int) - 1) = (tln l1 : Int) - 1 := wrap_id (by omega) (by omega)
    have e4 : IntKind.i64.wrap ((tln l1 : Int) - 1 - (d : Int)) = (tln l1 : Int) - 1 - (d : Int) := wrap_id (by omega) (by omega)
    simp only [WS, List.getElem_cons_zero, List.getElem_cons_succ, Option.isNone_some, Option.isNone_none, List.getD_cons_zero, List.getD_cons_succ, I.at, atL, atO, atP, evp, evs, retV, ↓reduceIte, Nat.reduceEqDiff, reduceCtorEq, show decide ((d : Int) < (tln l1 : Int)) = false from decide_eq_false (by omega), om.sl.Xlen, hml, e3, e4]
    refine loop_of (fun t w' => w' = w2 ∧ t 6 = .slice none 0 0 ∧ t 7 = sm ∧ t 11 = .int .i64 ((tln l1 : Int) - 1 - (d : Int))) (fun _ _ => 0) ⟨rfl, rfl, rfl, rfl⟩ ?_
    rintro t w' ⟨rfl, t6, t7, t11⟩
    simp only [WS, List.getElem_cons_zero, List.getElem_cons_succ, Option.isNone_some, Option.isNone_none, List.getD_cons_zero, List.getD_cons_succ, I.at, atL, atO, atP, evp, evs, retV, ↓reduceIte, Nat.reduceEqDiff, reduceCtorEq, t6, t7, t11, show decide ((0 : Int) ≤ (tln l1 : Int) - 1 - (d : Int)) = false from decide_eq_false (by omega)]
    refine X_call0 ((fin [] (tr l1) _ w' (by simp; omega) hml (by rw [co_nil, Ps.zero_mul, Ps.zero_add, tr_co]) (by rw [tr_co]; exact (tln_dg l1).mono had) (Ow.nil _ _) om B2).mono ?_)
    intro v w' h
    simp only [WS, List.getElem_cons_zero, List.getElem_cons_succ, Option.isNone_some, Option.isNone_none, List.getD_cons_zero, List.getD_cons_succ, I.at, atL, atO, atP, evp, evs, retV, ↓reduceIte, Nat.reduceEqDiff, reduceCtorEq]
    exact h
  · have e3 : IntKind.i64.wrap ((tln l1 : Int) - (d : Int)) = ((tln l1 - d : Nat) : Int) := by rw [wrap_id (by omega) (by omega)]; omega
    have e4 : IntKind.i64.wrap ((tln l1 : Int) - 1) = (tln l1 : Int) - 1 := wrap_id (by omega) (by omega)
    have e5 : IntKind.i64.wrap ((tln l1 : Int) - 1 - (d : Int)) = ((tln l1 - d : Nat) : Int) - 1 := by rw [wrap_id (by omega) (by omega)]; omega
    simp only [WS, List.getElem_cons_zero, List.getElem_cons_succ, Option.isNone_some, Option.isNone_none, List.getD_cons_zero, List.getD_cons_succ, I.at, atL, atO, atP, evp, evs, retV, ↓reduceIte, Nat.reduceEqDiff, reduceCtorEq, show decide ((d : Int) < (tln l1 : Int)) = true from decide_eq_true (by omega), om.sl.Xlen, hml, e3]
    refine X_mks (x := (0 : El 8)) ?_ ?_ fun sq w3 oq hB => ?_
    · simp only [maxBytes]; omega
    · omega
    have omb := om.blk
    have om := om.up hB
    have B3 : RowKit.Below w.heap.size w w3 := B2.trans (hB.mono B2.size)
    have hne : Fw.blk sm ≠ Fw.blk sq := by
      intro e
      have hb2 : ∀ k, Fw.blk sq = some k → w2.heap.size ≤ k := fun k hk => (oq.blk k hk).1
      obtain ⟨k, hk, -⟩ := oq.sl.blk_lt (by intro e; have := congrArg List.length e; simp at this; omega)
      have h5 := hb2 k hk
      rw [hk] at e
      have h6 : k < w2.heap.size := (omb k e).2
      omega
    have oq := oq.mono B2.size
    have sqb : ∀ k, Fw.blk sq = some k → w.heap.size ≤ k := fun k hk => (oq.blk k hk).1
    have smb : ∀ k, Fw.blk sm = some k → w.heap.size ≤ k := fun k hk => (omb k hk).1
    simp only [WS, List.getElem_cons_zero, List.getElem_cons_succ, Option.isNone_some, Option.isNone_none, List.getD_cons_zero, List.getD_cons_succ, I.at, atL, atO, atP, evp, evs, retV, ↓reduceIte, Nat.reduceEqDiff, reduceCtorEq, om.sl.Xlen, hml, e4, e5]
    refine loop_of (fun t w' => t 0 = .pointer (some ⟨b, 0, none⟩) ∧ t 2 = s2 ∧ t 6 = sq ∧ t 7 = sm ∧ t 8 = .int .i64 (d : Int) ∧ t 9 = .int .u8 (c.v.toNat : Int) ∧ RowKit.Below w.heap.size w w' ∧ ∃ (k : Nat) (q m : List (El 8)), t 11 = .int .i64 ((k : Int) - 1) ∧ k ≤ tln l1 - d ∧
        Ow w.heap.size w' sq q ∧ Ow w.heap.size w' sm m ∧ q.length = tln l1 - d ∧ m.length = tln l1 ∧ co l1 = co q * co l2 + co m ∧ Dg (co m) (k + d) ∧ ∀ i, i < k → (co q).c i = 0)
      (fun t _ => (toI (t 11) + 1).toNat) ⟨by simp only [WS, List.getElem_cons_zero, List.getElem_cons_succ, Option.isNone_some, Option.isNone_none, List.getD_cons_zero, List.getD_cons_succ, I.at, atL, atO, atP, evp, evs, retV, ↓reduceIte, Nat.reduceEqDiff, reduceCtorEq], by simp only [WS, List.getElem_cons_zero, List.getElem_cons_succ, Option.isNone_some, Option.isNone_none, List.getD_cons_zero, List.getD_cons_succ, I.at, atL, atO, atP, evp, evs, retV, ↓reduceIte, Nat.reduceEqDiff, reduceCtorEq], rfl, by simp only [WS, List.getElem_cons_zero, List.getElem_cons_succ, Option.isNone_some, Option.isNone_none, List.getD_cons_zero, List.getD_cons_succ, I.at, atL, atO, atP, evp, evs, retV, ↓reduceIte, Nat.reduceEqDiff, reduceCtorEq], by simp only [WS, List.getElem_cons_zero, List.getElem_cons_succ, Option.isNone_some, Option.isNone_none, List.getD_cons_zero, List.getD_cons_succ, I.at, atL, atO, atP, evp, evs, retV, ↓reduceIte, Nat.reduceEqDiff, reduceCtorEq], by simp only [WS, List.getElem_cons_zero, List.getElem_cons_succ, Option.isNone_some, Option.isNone_none, List.getD_cons_zero, List.getD_cons_succ, I.at, atL, atO, atP, evp, evs, retV, ↓reduceIte, Nat.reduceEqDiff, reduceCtorEq], B3, tln l1 - d, _, tr l1, rfl, Nat.le_refl _, oq, om, by simp, hml, by rw [co_replicate, Ps.zero_mul, Ps.zero_add, tr_co], by rw [tr_co]; exact (tln_dg l1).mono (by omega), fun i _ => by rw [co_replicate]; rfl⟩ ?_
    clear om oq B3 hB
    rintro t w4 ⟨t0, t2, t6, t7, t8, t9, hB, k, q, m, t11, hk, oq, om, hql, hml, hco, hdm, hqz⟩
    rcases Nat.eq_zero_or_pos k with rfl | hp
    · rw [Nat.zero_add] at hdm
      simp only [WS, List.getElem_cons_zero, List.getElem_cons_succ, Option.isNone_some, Option.isNone_none, List.getD_cons_zero, List.getD_cons_succ, I.at, atL, atO, atP, evp, evs, retV, ↓reduceIte, Nat.reduceEqDiff, reduceCtorEq, t0, t2, t6, t7, t8, t9, t11, show decide ((0 : Int) ≤ ((0 : Nat) : Int) - 1) = false from rfl]
      refine X_call0 ((fin q m sq w4 hql hml hco hdm oq om hB).mono ?_)
      intro v w' h
      simp only [WS, List.getElem_cons_zero, List.getElem_cons_succ, Option.isNone_some, Option.isNone_none, List.getD_cons_zero, List.getD_cons_succ, I.at, atL, atO, atP, evp, evs, retV, ↓reduceIte, Nat.reduceEqDiff, reduceCtorEq]
      exact h
    · obtain ⟨k, rfl⟩ : ∃ j, k = j + 1 := ⟨k - 1, by omega⟩
      have e1 : ((k + 1 : Nat) : Int) - 1 = (k : Int) := by omega
      rw [e1] at t11
      have hkd : k + d < m.length := by omega
      have hkq : k < q.length := by omega
      obtain ⟨b', mv', iv', hbe, hrow', hm', -⟩ := hr.up hB
      cases hbe
      have wkd : IntKind.i64.wrap ((k : Int) + (d : Int)) = ((k + d : Nat) : Int) := by rw [wrap_id (by omega) (by omega)]; omega
      have wk1 : IntKind.i64.wrap ((k : Int) - 1) = (k : Int) - 1 := wrap_id (by omega) (by omega)
      have hos := om.sl.drew
      simp only [WS, List.getElem_cons_zero, List.getElem_cons_succ, Option.isNone_some, Option.isNone_none, List.getD_cons_zero, List.getD_cons_succ, I.at, atL, atO, atP, evp, evs, retV, ↓reduceIte, Nat.reduceEqDiff, reduceCtorEq, t0, t2, t6, t7, t8, t9, t11, show decide ((0 : Int) ≤ (k : Int)) = true by simp]
      refine WP_dops ?_
      simp only [ES, List.mem_cons, List.not_mem_nil, implies_true, forall_const, WS, List.getElem_cons_zero, List.getElem_cons_succ, Option.isNone_some, Option.isNone_none, List.getD_cons_zero, List.getD_cons_succ, I.at, atL, atO, atP, evp, evs, retV, ↓reduceIte, Nat.reduceEqDiff, reduceCtorEq, t0, t2, t6, t7, t8, t9, t11, wkd, addr_add0, Nat.zero_add, hrow'.drew.Eld (show 0 < [mv', iv'].length by simp), hos.Eix hkd, hos.Eld hkd, cell_e8]
      refine E_callK (Mul_b.call (w := w4.drew) hm' _ _ fun w5 hl => ?_)
      have hL : Like w4 w5 := (Like.drew w4).trans hl
      have om := hL.ow om
      have oq := hL.ow oq
      have hB := hL.bel hB hB.size
      generalize hx : m[k + d] * c = x
      simp only [ES, List.mem_cons, List.not_mem_nil, implies_true, forall_const, WS, List.getElem_cons_zero, List.getElem_cons_succ, Option.isNone_some, Option.isNone_none, List.getD_cons_zero, List.getD_cons_succ, I.at, atL, atO, atP, evp, evs, retV, ↓reduceIte, Nat.reduceEqDiff, reduceCtorEq, t0, t2, t6, t7, t8, t9, t11, oq.sl.Xix hkq]
      refine Ow.Xst oq hkq x fun w6 oq hg => ?_
      have om := om.grown hg hne
      have hB := hB.grown hg hB.size sqb
      clear hg hrow' hm' hos hl hL
      simp only [WS, List.getElem_cons_zero, List.getElem_cons_succ, Option.isNone_some, Option.isNone_none, List.getD_cons_zero, List.getD_cons_succ, I.at, atL, atO, atP, evp, evs, retV, ↓reduceIte, Nat.reduceEqDiff, reduceCtorEq, t0, t2, t6, t7, t8, t9, t11]
      have hqk : q[k] = 0 := by rw [← co_get q hkq]; exact hqz k (by omega)
      have hsm := co_set_mono8 q hkq x hqk
      have hql' : (q.set k x).length = tln l1 - d := by simp [hql]
      have hqz' : ∀ i, i < k → (co (q.set k x)).c i = 0 := fun i hi => by rw [co_set _ hkq, if_neg (by omega)]; exact hqz i (by omega)
      by_cases hx0 : x = 0
      · have d1 : decide ((x.v.toNat : Int) = 0) = true := decide_eq_true ((el_zero _).mpr hx0)
        have hmz : m[k + d] = 0 := by
          rw [hx0] at hx
          rcases El.mul_eq_zero.1 hx with h | h
          · exact h
          · exact absurd hgc (by rw [h, El.mul_zero]; exact fun e => El.one_ne e.symm)
        simp only [WS, List.getElem_cons_zero, List.getElem_cons_succ, Option.isNone_some, Option.isNone_none, List.getD_cons_zero, List.getD_cons_succ, I.at, atL, atO, atP, evp, evs, retV, ↓reduceIte, Nat.reduceEqDiff, reduceCtorEq, t0, t2, t6, t7, t8, t9, t11, d1, wk1, toI_int]
        refine ⟨⟨hB, k, q.set k x, m, rfl, by omega, oq, om, hql', hml, ?_, fun i hi => ?_, hqz'⟩, by omega⟩
        · rw [hsm, hx0, mono_zero, Ps.add_zero]; exact hco
        · by_cases hi2 : i = k + d
          · subst hi2; rw [co_get m hkd]; exact hmz
          · exact hdm i (by omega)
      · have d1 : decide ((x.v.toNat : Int) = 0) = false := decide_eq_false (fun e => hx0 ((el_zero _).mp e))
        have wd1 : IntKind.i64.wrap ((d : Int) + 1) = ((d + 1 : Nat) : Int) := by rw [wrap_id (by omega) (by omega)]; omega
        simp only [WS, List.getElem_cons_zero, List.getElem_cons_succ, Option.isNone_some, Option.isNone_none, List.getD_cons_zero, List.getD_cons_succ, I.at, atL, atO, atP, evp, evs, retV, ↓reduceIte, Nat.reduceEqDiff, reduceCtorEq, t0, t2, t6, t7, t8, t9, t11, d1, wd1]
        refine loop_of (fun t w' => t 0 = .pointer (some ⟨b, 0, none⟩) ∧ t 2 = s2 ∧ t 6 = sq ∧ t 7 = sm ∧ t 8 = .int .i64 (d : Int) ∧ t 9 = .int .u8 (c.v.toNat : Int) ∧ t 11 = .int .i64 (k : Int) ∧ t 12 = .int .u8 (x.v.toNat : Int) ∧ t 67 = .int .i64 ((d + 1 : Nat) : Int) ∧ RowKit.Below w.heap.size w w' ∧
            Ow w.heap.size w' sq (q.set k x) ∧ ∃ (j : Nat) (ms : List (El 8)), t 68 = .int .i64 (j : Int) ∧ j ≤ d + 1 ∧ Ow w.heap.size w' sm ms ∧ ms.length = tln l1 ∧ ∀ i, (co ms).c i = (co m).c i + (if k ≤ i ∧ i < k + j then x * (co l2).c (i - k) else 0))
          (fun t _ => d + 1 - (toI (t 68)).toNat) ⟨by simp only [WS, List.getElem_cons_zero, List.getElem_cons_succ, Option.isNone_some, Option.isNone_none, List.getD_cons_zero, List.getD_cons_succ, I.at, atL, atO, atP, evp, evs, retV, ↓reduceIte, Nat.reduceEqDiff, reduceCtorEq, t0], by simp only [WS, List.getElem_cons_zero, List.getElem_cons_succ, Option.isNone_some, Option.isNone_none, List.getD_cons_zero, List.getD_cons_succ, I.at, atL, atO, atP, evp, evs, retV, ↓reduceIte, Nat.reduceEqDiff, reduceCtorEq, t2], by simp only [WS, List.getElem_cons_zero, List.getElem_cons_succ, Option.isNone_some, Option.isNone_none, List.getD_cons_zero, List.getD_cons_succ, I.at, atL, atO, atP, evp, evs, retV, ↓reduceIte, Nat.reduceEqDiff, reduceCtorEq, t6], by simp only [WS, List.getElem_cons_zero, List.getElem_cons_succ, Option.isNone_some, Option.isNone_none, List.getD_cons_zero, List.getD_cons_succ, I.at, atL, atO, atP, evp, evs, retV, ↓reduceIte, Nat.reduceEqDiff, reduceCtorEq, t7], by simp only [WS, List.getElem_cons_zero, List.getElem_cons_succ, Option.isNone_some, Option.isNone_none, List.getD_cons_zero, List.getD_cons_succ, I.at, atL, atO, atP, evp, evs, retV, ↓reduceIte, Nat.reduceEqDiff, reduceCtorEq, t8], by simp only [WS, List.getElem_cons_zero, List.getElem_cons_succ, Option.isNone_some, Option.isNone_none, List.getD_cons_zero, List.getD_cons_succ, I.at, atL, atO, atP, evp, evs, retV, ↓reduceIte, Nat.reduceEqDiff, reduceCtorEq, t9], by simp only [WS, List.getElem_cons_zero, List.getElem_cons_succ, Option.isNone_some, Option.isNone_none, List.getD_cons_zero, List.getD_cons_succ, I.at, atL, atO, atP, evp, evs, retV, ↓reduceIte, Nat.reduceEqDiff, reduceCtorEq, t11], rfl, rfl, hB, oq, 0, m, rfl, by omega, om, hml, fun i => by rw [if_neg (by omega), El.add_zero]⟩ ?_
        clear t0 t2 t6 t7 t8 t9 t11 om oq hB
        rintro t w7 ⟨t0, t2, t6, t7, t8, t9, t11, t12, t67, hB, oq, j, ms, t68, hj, om, hmsl, hmc⟩
        by_cases hjl : j < d + 1
        · obtain ⟨b', mv', iv', hbe, hrow', hm', -⟩ := hr.up hB
          cases hbe
          have hj2 : j < l2.length := by omega
          have hkj : k + j < ms.length := by omega
          have wkj : IntKind.i64.wrap ((k : Int) + (j : Int)) = ((k + j : Nat) : Int) := by rw [wrap_id (by omega) (by omega)]; omega
          have wj : IntKind.i64.wrap ((j : Int) + 1) = ((j + 1 : Nat) : Int) := by rw [wrap_id (by omega) (by omega)]; omega
          have hos := om.sl.drew
          have hg := (h2w.up hB).drew
          simp only [WS, List.getElem_cons_zero, List.getElem_cons_succ, Option.isNone_some, Option.isNone_none, List.getD_cons_zero, List.getD_cons_succ, I.at, atL, atO, atP, evp, evs, retV, ↓reduceIte, Nat.reduceEqDiff, reduceCtorEq, t0, t2, t6, t7, t8, t9, t11, t12, t67, t68, show decide ((j : Int) < ((d + 1 : Nat) : Int)) = true from decide_eq_true (by omega)]
          refine WP_dops ?_
          simp only [ES, List.mem_cons, List.not_mem_nil, implies_true, forall_const, WS, List.getElem_cons_zero, List.getElem_cons_succ, Option.isNone_some, Option.isNone_none, List.getD_cons_zero, List.getD_cons_succ, I.at, atL, atO, atP, evp, evs, retV, ↓reduceIte, Nat.reduceEqDiff, reduceCtorEq, t0, t2, t6, t7, t8, t9, t11, t12, t67, t68, wkj, addr_add0, Nat.zero_add, Nat.add_zero, hrow'.drew.Eld (show 0 < [mv', iv'].length by simp), hos.Eix hkj, hos.Eld hkj, hg.Eix hj2, hg.Eld hj2, cell_e8]
          refine E_callK (Mul_b.call (w := w7.drew) hm' _ _ fun w8 hl => ?_)
          have hos8 := hl.sl hos
          have hsee := hos8.sees hkj Try.prog
          rw [cell_e8] at hsee
          have hL : Like w7 w8 := (Like.drew w7).trans hl
          simp only [ES, List.mem_cons, List.not_mem_nil, implies_true, forall_const, WS, List.getElem_cons_zero, List.getElem_cons_succ, Option.isNone_some, Option.isNone_none, List.getD_cons_zero, List.getD_cons_succ, I.at, atL, atO, atP, evp, evs, retV, ↓reduceIte, Nat.reduceEqDiff, reduceCtorEq, hsee, xor8, hos8.Eix hkj]
          refine Ow.Est (hL.ow om) hkj (ms[k + j] + x * l2[j]) fun w9 om9 hg9 => ?_
          have oq9 := (hL.ow oq).grown hg9 (fun e => hne e.symm)
          have hB9 := (hL.bel hB hB.size).grown hg9 (by rw [hL.size]; exact hB.size) smb
          simp only [ES, List.mem_cons, List.not_mem_nil, implies_true, forall_const, WS, List.getElem_cons_zero, List.getElem_cons_succ, Option.isNone_some, Option.isNone_none, List.getD_cons_zero, List.getD_cons_succ, I.at, atL, atO, atP, evp, evs, retV, ↓reduceIte, Nat.reduceEqDiff, reduceCtorEq, t0, t2, t6, t7, t8, t9, t11, t12, t67, t68, wj, toI_int]
          refine ⟨⟨hB9, oq9, j + 1, _, rfl, by omega, om9, by simp [hmsl], fun i => ?_⟩, by omega⟩
          rw [co_set _ hkj, hmc i]
          by_cases hi : i = k + j
          · subst hi
            rw [if_pos rfl, if_pos ⟨by omega, by omega⟩]
            have := hmc (k + j)
            rw [if_neg (by omega), El.add_zero, co_get ms hkj] at this
            rw [this, show k + j - k = j by omega, co_get _ hj2]
          · rw [if_neg hi]
            have : (k ≤ i ∧ i < k + (j + 1)) = (k ≤ i ∧ i < k + j) := propext ⟨fun h => by omega, fun h => by omega⟩
            simp only [this]
        · have hje : j = d + 1 := by omega
          subst hje
          have hms : co ms = co m + Ps.mono k x * co l2 := Ps.ext fun i => by
            rw [hmc i, Ps.add_c, Ps.mono_mul]
            congr 1
            by_cases hki : k ≤ i
            · rw [if_pos hki]
              by_cases h3 : i < k + (d + 1)
              · rw [if_pos ⟨hki, h3⟩]
              · rw [if_neg (by omega), tln_dg l2 (i - k) (by omega), El.mul_zero]
            · rw [if_neg (by omega), if_neg hki]
          simp only [WS, List.getElem_cons_zero, List.getElem_cons_succ, Option.isNone_some, Option.isNone_none, List.getD_cons_zero, List.getD_cons_succ, I.at, atL, atO, atP, evp, evs, retV, ↓reduceIte, Nat.reduceEqDiff, reduceCtorEq, t0, t2, t6, t7, t8, t9, t11, t12, t67, t68, show decide (((d + 1 : Nat) : Int) < ((d + 1 : Nat) : Int)) = false from decide_eq_false (by omega), wk1, toI_int]
          refine ⟨⟨hB, k, q.set k x, ms, rfl, by omega, oq, om, hql', hmsl, ?_, fun i hi => ?_, hqz'⟩, by omega⟩
          · rw [hsm, hms, Ps.add_mul, hco]
            generalize co q * co l2 = A
            generalize Ps.mono k x * co l2 = B
            rw [show A + B + (co m + B) = A + co m + (B + B) by ac_rfl, Ps.add_self, Ps.add_zero]
          · rw [hms, Ps.add_c, Ps.mono_mul, if_pos (by omega)]
            by_cases hi2 : i = k + d
            · subst hi2
              rw [show k + d - k = d by omega, co_get m hkd, co_get l2 hdl, ← hx, El.mul_assoc, El.mul_comm c, hgc, El.mul_one, El.add_self]
            · rw [hdm i (by omega), tln_dg l2 (i - k) (by omega), El.mul_zero, El.add_zero]
end Go.Proofs.Ytbaljbadlfopgaa.Fw

namespace Go.Proofs.Ytbaljbadlfopgaa.Fw
open Go Go.Fw
theorem polys_Ring_b_DivMod_spec (w : World) (r s1 s2 : Value) (l1 l2 : List (El 8)) (hr : Ring_b w r) (h1 : Sl w s1 l1) (h2 : Sl w s2 l2) (hb1 : l1.length ≤ 70368744175616) (hb2 : l2.length ≤ 70368744175616) :
    CallV Try.prog 91 [r, s1, s2] w fun v w' => RowKit.Below w.heap.size w w' ∧
      ((l1.length ≤ 1024 ∧ l2.length ≤ 1024 ∧ tln l2 ≠ 0 ∧ ∃ sq sm q m, v = .tuple #[sq, sm, .int .i64 0] ∧ Ow w.heap.size w' sq q ∧ Ow w.heap.size w' sm m ∧ tr q = q ∧ tr m = m ∧ co l1 = co q * co l2 + co m ∧ m.length < tln l2 ∧ q.length = tln l1 - (tln l2 - 1)) ∨
       (l1.length ≤ 1024 ∧ l2.length ≤ 1024 ∧ tln l2 = 0 ∧ v = .tuple #[.slice none 0 0, .slice none 0 0, .int .i64 40]) ∨
       (¬ (l1.length ≤ 1024 ∧ l2.length ≤ 1024) ∧ v = .tuple #[.slice none 0 0, .slice none 0 0, .int .i64 5])) := by
  refine run_polys_Ring_b_DivMod (by simp) ?_
  simp only [c_polys_Ring_b_DivMod, WS, List.getElem_cons_zero, List.getElem_cons_succ, Option.isNone_some, Option.isNone_none, List.getD_cons_zero, List.getD_cons_succ, I.at, atL, atO, atP, evp, evs, retV, ↓reduceIte, Nat.reduceEqDiff, reduceCtorEq]
  obtain ⟨e1, n1⟩ := h1.hd
  obtain ⟨e2, n2⟩ := h2.hd
  refine X_bsl (zs := [hd s1, hd s2]) (fill2 h1 h2) rfl fun ls w1 ho hB => ?_
  obtain ⟨b, mv, iv, rfl, -, -⟩ := id hr
  simp only [WS, List.getElem_cons_zero, List.getElem_cons_succ, Option.isNone_some, Option.isNone_none, List.getD_cons_zero, List.getD_cons_succ, I.at, atL, atO, atP, evp, evs, retV, ↓reduceIte, Nat.reduceEqDiff, reduceCtorEq]
  refine X_call0 ((polys_Ring_b_refuses_spec w1 _ ls _ ho.sl (by simp) (by simp [n1, n2]; omega)).mono ?_)
  rintro v w' ⟨rfl, rfl⟩
  have hiff : (∀ x ∈ [hd s1, hd s2], x.n ≤ 1024) = (l1.length ≤ 1024 ∧ l2.length ≤ 1024) := by simp [n1, n2]
  by_cases hsz : l1.length ≤ 1024 ∧ l2.length ≤ 1024
  · rw [if_pos (hiff.mpr hsz)]
    simp only [WS, List.getElem_cons_zero, List.getElem_cons_succ, Option.isNone_some, Option.isNone_none, List.getD_cons_zero, List.getD_cons_succ, I.at, atL, atO, atP, evp, evs, retV, ↓reduceIte, Nat.reduceEqDiff, reduceCtorEq, show decide ((0 : Int) = 0) = true from rfl]
    refine X_call0 ((polys_degree_b_spec w' s2 l2 (h2.up hB) hb2).mono ?_)
    rintro v w2 ⟨rfl, rfl⟩
    by_cases hz : tln l2 = 0
    · simp only [WS, List.getElem_cons_zero, List.getElem_cons_succ, Option.isNone_some, Option.isNone_none, List.getD_cons_zero, List.getD_cons_succ, I.at, atL, atO, atP, evp, evs, retV, ↓reduceIte, Nat.reduceEqDiff, reduceCtorEq, show decide ((tln l2 : Int) - 1 < 0) = true from decide_eq_true (by omega)]
      exact ⟨hB, Or.inr (Or.inl ⟨hsz.1, hsz.2, hz⟩)⟩
    · simp only [WS, List.getElem_cons_zero, List.getElem_cons_succ, Option.isNone_some, Option.isNone_none, List.getD_cons_zero, List.getD_cons_succ, I.at, atL, atO, atP, evp, evs, retV, ↓reduceIte, Nat.reduceEqDiff, reduceCtorEq, show decide ((tln l2 : Int) - 1 < 0) = false from decide_eq_false (by omega)]
      refine X_call0 ((polys_Ring_b_divided_spec w2 _ s1 s2 l1 l2 (hr.up hB) (h1.up hB) (h2.up hB) hb1 hb2 hz).mono ?_)
      rintro v w3 ⟨sq, sm, q, m, rfl, oq, om, h3, h4, h5, h6, h7, hB2⟩
      simp only [WS, List.getElem_cons_zero, List.getElem_cons_succ, Option.isNone_some, Option.isNone_none, List.getD_cons_zero, List.getD_cons_succ, I.at, atL, atO, atP, evp, evs, retV, ↓reduceIte, Nat.reduceEqDiff, reduceCtorEq]
      exact ⟨hB.trans (hB2.mono hB.size), Or.inl ⟨hsz.1, hsz.2, hz, sq, sm, q, m, rfl, oq.mono hB.size, om.mono hB.size, h3, h4, h5, h6, h7⟩⟩
  · rw [if_neg (fun e => hsz (hiff.mp e))]
    simp only [WS, List.getElem_cons_zero, List.getElem_cons_succ, Option.isNone_some, Option.isNone_none, List.getD_cons_zero, List.getD_cons_succ, I.at, atL, atO, atP, evp, evs, retV, ↓reduceIte, Nat.reduceEqDiff, reduceCtorEq, show decide ((5 : Int) = 0) = false from rfl]
    exact ⟨hB, Or.inr (Or.inr hsz)⟩
end Go.Proofs.Ytbaljbadlfopgaa.Fw

/- Euclid's way with its factors. Plain maths. -/
set_option linter.unusedVariables false
set_option linter.unusedSectionVars false
namespace Go.Fw
variable {n : Nat} [F : Fd n]
theorem tr_nil : tr ([] : List (El n)) = [] := rfl
theorem tr_one : tr [(1 : El n)] = [1] := by unfold tr; simp [tln, El.one_ne]
theorem co_one : co [(1 : El n)] = 1 := Ps.ext fun k => by
  rcases k with _ | k
  · rfl
  · rfl
theorem len_top {a : List (El n)} (h : tr a = a) (h0 : a ≠ []) : (co a).c (a.length - 1) ≠ 0 := by
  have := len_tr h
  have hp : 0 < a.length := List.length_pos_iff.2 h0
  exact tln_top a (a.length - 1) (by omega)
theorem len_of {a : List (El n)} {k : Nat} (h : tr a = a) (h1 : Dg (co a) k) (h2 : k = 0 ∨ (co a).c (k - 1) ≠ 0) : a.length = k := by rw [len_tr h, tln_of h1 h2]
theorem len_le {a : List (El n)} {k : Nat} (h : tr a = a) (h1 : Dg (co a) k) : a.length ≤ k := by
  refine Nat.le_of_not_lt fun h2 => ?_
  have h0 : a ≠ [] := by rintro rfl; simp at h2
  exact len_top h h0 (h1 _ (by omega))
/-- A product that is not 0 and a summand of a lower degree. -/
theorem sum_len {s' u q s : List (El n)} (hs' : tr s' = s') (hq : tr q = q) (hs : tr s = s) (he : co s' = co u + co q * co s) (hq0 : q ≠ []) (hs0 : s ≠ []) (hu : u.length + 1 < q.length + s.length) : s'.length + 1 = q.length + s.length := by
  have hql : 0 < q.length := List.length_pos_iff.2 hq0
  have hsl : 0 < s.length := List.length_pos_iff.2 hs0
  have : s'.length = q.length + s.length - 1 := by
    refine len_of hs' ?_ (Or.inr ?_)
    · rw [he]
      exact ((co_dg u).mono (by omega)).add ((co_dg q).mul (co_dg s))
    · rw [he, Ps.add_c, co_dg u _ (by omega), El.zero_add]
      have h1 : Dg (co q) (q.length - 1 + 1) := (co_dg q).mono (by omega)
      have h2 : Dg (co s) (s.length - 1 + 1) := (co_dg s).mono (by omega)
      have h3 := Ps.mul_top h1 h2
      rw [show q.length + s.length - 1 - 1 = q.length - 1 + (s.length - 1) by omega, h3]
      exact fun e => (El.mul_eq_zero.1 e).elim (len_top hq hq0) (len_top hs hs0)
  omega
theorem quo_len {a q b m : List (El n)} (ha : tr a = a) (hq : tr q = q) (hb : tr b = b) (he : co a = co q * co b + co m) (hm : m.length < b.length) (hl : b.length ≤ a.length) : q.length + b.length = a.length + 1 := by
  have hb0 : b ≠ [] := by rintro rfl; simp at hm
  by_cases hq0 : q = []
  · subst hq0
    have : a.length ≤ m.length := len_le ha (by rw [he, co_nil, Ps.zero_mul, Ps.zero_add]; exact co_dg m)
    omega
  · have hql : 0 < q.length := List.length_pos_iff.2 hq0
    have := sum_len (u := m) ha hq hb (by rw [he, Ps.add_comm]) hq0 hb0 (by omega)
    omega
theorem quo_zero {a q b m : List (El n)} (ha : tr a = a) (hq : tr q = q) (hb : tr b = b) (he : co a = co q * co b + co m) (hm : m.length < b.length) (hl : a.length < b.length) : q = [] := by
  have hb0 : b ≠ [] := by rintro rfl; simp at hm
  refine Classical.byContradiction fun hq0 => ?_
  have hql : 0 < q.length := List.length_pos_iff.2 hq0
  have := sum_len (u := m) ha hq hb (by rw [he, Ps.add_comm]) hq0 hb0 (by omega)
  omega
theorem div_uniq {a b q m q' m' : List (El n)} (hq : tr q = q) (hm : tr m = m) (hq' : tr q' = q') (hm' : tr m' = m') (he : co a = co q * co b + co m) (he' : co a = co q' * co b + co m') (hl : m.length < tln b) (hl' : m'.length < tln b) : q = q' ∧ m = m' := by
  have h : (co q + co q') * co b = co m + co m' := by
    have h1 : co q * co b + co m + (co q' * co b + co m') = 0 := by rw [← he, ← he', Ps.add_self]
    have h2 : (co q + co q') * co b + (co m + co m') = 0 := by rw [← h1, Ps.add_mul]; ac_rfl
    exact Ps.eq_of_add h2
  obtain ⟨d, hd⟩ := ((Pol.of q).add (Pol.of q'))
  have hmm : Dg (co m + co m') (tln b - 1) := ((co_dg m).mono (by omega)).add ((co_dg m').mono (by omega))
  by_cases h0 : tln d = 0
  · have e := co_zero_of_tln h0
    rw [hd] at e
    rw [e, Ps.zero_mul] at h
    exact ⟨tr_inj hq hq' (Ps.eq_of_add e), tr_inj hm hm' (Ps.eq_of_add h.symm)⟩
  · exfalso
    have hp : Pol (co d * co b) := (Pol.of d).mul (Pol.of b)
    obtain ⟨p, hp⟩ := hp
    have h3 := tln_mul hp h0 (by omega)
    have h4 : Dg (co p) (tln b - 1) := by rw [hp, hd, h]; exact hmm
    exact tln_top p (tln p - 1) (by omega) (h4 _ (by omega))
/-- Euclid's way from a and b on, with the factors u, v of a and s, t of b: what it ends with. -/
inductive Eu (d : Nat) : List (El n) → List (El n) → List (El n) → List (El n) → List (El n) → List (El n) → List (El n) → List (El n) → List (El n) → Prop
  | stop {a b u v s t} : a.length ≤ d → Eu d a b u v s t a u v
  | zero {a u v s t} : d < a.length → Eu d a [] u v s t [] s t
  | step {a b u v s t q m s' t' x y z} : d < a.length → b ≠ [] → tr q = q → tr m = m → co a = co q * co b + co m → m.length < b.length → tr s' = s' → co s' = co u + co q * co s → tr t' = t' → co t' = co v + co q * co t →
      Eu d b m s t s' t' x y z → Eu d a b u v s t x y z
/-- What Partial answers. -/
structure Part (f g : Ps n) (d : Nat) (m u v : List (El n)) : Prop where
  tm : tr m = m
  tu : tr u = u
  tv : tr v = v
  eq : co m = co u * f + co v * g
  lm : m.length ≤ d
  cop : ∃ p q, Pol p ∧ Pol q ∧ p * co u + q * co v = 1
theorem Eu.part {d : Nat} {f g : Ps n} {a b u v s t x y z : List (El n)} (h : Eu d a b u v s t x y z) (ha : tr a = a) (hb : tr b = b) (hu : tr u = u) (hv : tr v = v) (hs : tr s = s) (ht : tr t = t)
    (ea : co a = co u * f + co v * g) (eb : co b = co s * f + co t * g) (e1 : co u * co t + co v * co s = 1) : Part f g d x y z := by
  induction h with
  | @stop a b u v s t h1 => exact ⟨ha, hu, hv, ea, h1, co t, co s, Pol.of _, Pol.of _, by rw [← e1]; ac_rfl⟩
  | @zero a u v s t h1 => exact ⟨rfl, hs, ht, eb, by simp, co v, co u, Pol.of _, Pol.of _, by rw [← e1]; ac_rfl⟩
  | @step a b u v s t q m s' t' x y z h1 h2 h3 h4 h5 h6 h7 h8 h9 h10 h11 ih =>
    have hm : co m = co a + co q * co b := by rw [h5]; generalize co q * co b = A; rw [show A + co m + A = co m + (A + A) by ac_rfl, Ps.add_self, Ps.add_zero]
    refine ih hb h4 hs ht h7 h9 eb ?_ ?_
    · rw [hm, ea, eb, h8, h10, Ps.mul_add, Ps.add_mul, Ps.add_mul, Ps.mul_assoc, Ps.mul_assoc]; ac_rfl
    · rw [h8, h10, Ps.mul_add, Ps.mul_add, ← e1]
      rw [show co s * co v + co s * (co q * co t) + (co t * co u + co t * (co q * co s)) = (co u * co t + co v * co s) + (co s * (co q * co t) + co s * (co q * co t)) by
        rw [show co t * (co q * co s) = co s * (co q * co t) by ac_rfl, Ps.mul_comm (co s) (co v), Ps.mul_comm (co t) (co u)]; ac_rfl, Ps.add_self, Ps.add_zero]
theorem Eu.degs {d nF nG : Nat} {a b u v s t x y z : List (El n)} (h : Eu d a b u v s t x y z) (ha : tr a = a) (hb : tr b = b) (hs : tr s = s) (ht : tr t = t) (hba : b.length < a.length)
    (h1 : s.length + a.length = nG + 1) (h2 : u.length ≤ s.length) (h3 : t.length + a.length = nF + 1) (h4 : v.length ≤ t.length) (h5 : v.length + d ≤ nF) (h6 : a.length ≤ nG) (h7 : a.length ≤ nF) : y.length ≤ nG ∧ z.length ≤ nF ∧ z.length + d ≤ nF := by
  induction h with
  | @stop a b u v s t g1 => omega
  | @zero a u v s t g1 => omega
  | @step a b u v s t q m s' t' x y z g1 g2 g3 g4 g5 g6 g7 g8 g9 g10 g11 ih =>
    have hq := quo_len ha g3 hb g5 g6 (by omega)
    have hq0 : q ≠ [] := by rintro rfl; simp at hq; omega
    have e1 := sum_len g7 g3 hs g8 hq0 (by rintro rfl; simp at h1; omega) (by omega)
    have e2 := sum_len g9 g3 ht g10 hq0 (by rintro rfl; simp at h3; omega) (by omega)
    exact ih hb g4 g7 g9 g6 (by omega) (by omega) (by omega) (by omega) (by omega) (by omega) (by omega)
/-- The whole way. -/
theorem Eu.lens {d : Nat} {f g x y z : List (El n)} (h : Eu d (tr f) (tr g) [1] [] [] [1] x y z) :
    y.length ≤ max 1 (tln g) ∧ z.length ≤ max 1 (tln f) ∧ (tln f ≤ d → x = tr f ∧ z = []) ∧ (d < tln f → tln g < tln f → z.length + d ≤ tln f) := by
  have tf := tr_len f
  have tg := tr_len g
  generalize hF : tr f = A at h tf
  generalize hG : tr g = B at h tg
  have hA : tr A = A := by rw [← hF]; exact tr_tr f
  have hB : tr B = B := by rw [← hG]; exact tr_tr g
  cases h with
  | stop h1 => exact ⟨by simp; omega, by simp, fun _ => ⟨rfl, rfl⟩, fun h => by omega⟩
  | zero h1 => exact ⟨by simp, by simp; omega, fun h => by omega, fun _ _ => by simp; omega⟩
  | @step _ _ _ _ _ _ q m s' t' _ _ _ h1 h2 h3 h4 h5 h6 h7 h8 h9 h10 h11 =>
    have hs' : s' = [1] := tr_inj h7 tr_one (by rw [h8, co_nil, Ps.mul_zero, Ps.add_zero])
    have ht' : t' = q := tr_inj h9 h3 (by rw [h10, co_nil, co_one, Ps.mul_one, Ps.zero_add])
    subst hs' ht'
    by_cases hl : B.length ≤ A.length
    · have hq := quo_len hA h3 hB h5 h6 hl
      obtain ⟨r1, r2, r3⟩ := h11.degs (nF := A.length) (nG := B.length) hB h4 tr_one h3 h6 (by simp; omega) (by simp) (by omega) (by simp; omega) (by simp; omega) (by omega) hl
      exact ⟨by omega, by omega, fun h => by omega, fun _ _ => by omega⟩
    · have hq := quo_zero hA h3 hB h5 h6 (by omega)
      subst hq
      have hm : m = A := tr_inj h4 hA (by rw [h5, co_nil, Ps.zero_mul, Ps.zero_add])
      subst hm
      cases h11 with
      | stop h1 => exact ⟨by simp, by simp; omega, fun h => by omega, fun _ _ => by omega⟩
      | zero _ => simp at h1
      | @step _ _ _ _ _ _ q m' s' t' _ _ _ k1 k2 k3 k4 k5 k6 k7 k8 k9 k10 k11 =>
        have ht' : t' = [1] := tr_inj k9 tr_one (by rw [k10, co_nil, Ps.mul_zero, Ps.add_zero])
        have hs' : s' = q := tr_inj k7 k3 (by rw [k8, co_nil, co_one, Ps.mul_one, Ps.zero_add])
        subst hs' ht'
        have hq := quo_len hB k3 hA k5 k6 (by omega)
        obtain ⟨r1, r2, r3⟩ := k11.degs (nF := m.length) (nG := B.length) hA k4 k3 tr_one k6 (by omega) (by simp; omega) (by simp; omega) (by simp) (by simp; omega) (by omega) (by omega)
        exact ⟨by omega, by omega, fun h => by omega, fun _ _ => by omega⟩
theorem Eu.whole {d : Nat} {f g x y z : List (El n)} (h : Eu d (tr f) (tr g) [1] [] [] [1] x y z) : Part (co f) (co g) d x y z :=
  h.part (tr_tr f) (tr_tr g) tr_one tr_nil tr_nil tr_one (by rw [tr_co, co_one, co_nil, Ps.one_mul, Ps.zero_mul, Ps.add_zero]) (by rw [tr_co, co_one, co_nil, Ps.one_mul, Ps.zero_mul, Ps.zero_add]) (by rw [co_one, co_nil, Ps.one_mul, Ps.zero_mul, Ps.add_zero])
end Go.Fw

set_option linter.unusedVariables false
set_option linter.unusedSimpArgs false
set_option maxRecDepth 100000
set_option maxHeartbeats 1000000
namespace Go.Proofs.Ytbaljbadlfopgaa.Fw
open Go Go.Fw Go.Proofs
attribute [local irreducible] stepI
def c_polys_Ring_b_Partial : C := .seq (.ops [⟨0, (some 8), none, .mov (.c (.slice none 0 0)), []⟩, ⟨1, (some 9), none, .mov (.c (.slice none 0 0)), []⟩, ⟨2, (some 10), none, .mov (.c (.slice none 0 0)), []⟩, ⟨3, (some 11), none, .mov (.c (.int .i64 0)), []⟩]) (.seq (.seq (.ops [⟨0, (some 19), none, .mov (.t 0), []⟩, ⟨1, (some 20), none, .mov (.t 1), []⟩, ⟨2, (some 21), none, .mov (.t 2), []⟩, ⟨3, (some 22), none, .bsl 25 2 [.slice none 0 0] [(0, (1, .t 20)), (1, (1, .t 21))], []⟩, ⟨4, (some 23), none, .call (.c (.func (.func 87) #[] #[])) [.t 19, .t 22], []⟩, ⟨5, (some 12), none, .mov (.t 23), []⟩]) (.seq (.ops [⟨0, (some 24), none, .mov (.t 12), []⟩, ⟨1, (some 25), none, .bin .neq (.t 24) (.c (.int .i64 0)), []⟩]) (.ite (.t 25) (.seq (.ops [⟨0, (some 26), none, .mov (.t 12), []⟩, ⟨1, (some 8), none, .mov (.c (.slice none 0 0)), []⟩, ⟨2, (some 9), none, .mov (.c (.slice none 0 0)), []⟩, ⟨3, (some 10), none, .mov (.c (.slice none 0 0)), []⟩, ⟨4, (some 11), none, .mov (.t 26), []⟩]) .ret) .skip))) (.seq (.seq (.ops [⟨0, (some 27), none, .mov (.t 3), []⟩, ⟨1, (some 28), none, .bin .lss (.t 27) (.c (.int .i64 0)), []⟩]) (.ite (.t 28) (.seq (.ops [⟨0, (some 8), none, .mov (.c (.slice none 0 0)), []⟩, ⟨1, (some 9), none, .mov (.c (.slice none 0 0)), []⟩, ⟨2, (some 10), none, .mov (.c (.slice none 0 0)), []⟩, ⟨3, (some 11), none, .mov (.c (.int .i64 7)), []⟩]) .ret) .skip)) (.seq (.ops [⟨0, (some 29), none, .mov (.t 1), []⟩, ⟨1, (some 30), none, .call (.c (.func (.func 125) #[] #[])) [.t 29], []⟩, ⟨2, (some 31), none, .mov (.t 2), []⟩, ⟨3, (some 32), none, .call (.c (.func (.func 125) #[] #[])) [.t 31], []⟩, ⟨4, (some 13), none, .mov (.t 30), []⟩, ⟨5, (some 14), none, .mov (.t 32), []⟩]) (.seq (.ops [⟨0, (some 33), none, .bsl 5 1 [.int .u8 0] [(0, (1, .c (.int .u8 1)))], []⟩, ⟨1, (some 9), none, .mov (.t 33), []⟩, ⟨2, (some 10), none, .mov (.c (.slice none 0 0)), []⟩]) (.seq (.ops [⟨0, (some 34), none, .bsl 5 1 [.int .u8 0] [(0, (1, .c (.int .u8 1)))], []⟩, ⟨1, (some 15), none, .mov (.c (.slice none 0 0)), []⟩, ⟨2, (some 16), none, .mov (.t 34), []⟩]) (.seq (.block 0 (.loop (.seq (.seq (.ops [⟨0, (some 35), none, .mov (.t 13), []⟩, ⟨1, (some 36), none, .len (.t 35), []⟩, ⟨2, (some 37), none, .bin .sub (.t 36) (.c (.int .i64 1)), []⟩, ⟨3, (some 38), none, .mov (.t 3), []⟩, ⟨4, (some 39), none, .bin .geq (.t 37) (.t 38), []⟩]) (.ite (.t 39) .skip (.exit 0))) (.block 1 (.seq (.seq (.ops [⟨0, (some 40), none, .mov (.t 14), []⟩, ⟨1, (some 41), none, .len (.t 40), []⟩, ⟨2, (some 42), none, .bin .eql (.t 41) (.c (.int .i64 0)), []⟩]) (.ite (.t 42) (.seq (.ops [⟨0, (some 43), none, .mov (.t 15), []⟩, ⟨1, (some 44), none, .call (.c (.func (.func 125) #[] #[])) [.t 43], []⟩, ⟨2, (some 45), none, .mov (.t 16), []⟩, ⟨3, (some 46), none, .call (.c (.func (.func 125) #[] #[])) [.t 45], []⟩, ⟨4, (some 8), none, .mov (.c (.slice none 0 0)), []⟩, ⟨5, (some 9), none, .mov (.t 44), []⟩, ⟨6, (some 10), none, .mov (.t 46), []⟩, ⟨7, (some 11), none, .mov (.c (.int .i64 0)), []⟩]) .ret) .skip)) (.seq (.ops [⟨0, (some 48), none, .mov (.t 0), []⟩, ⟨1, (some 49), none, .mov (.t 13), []⟩, ⟨2, (some 50), none, .mov (.t 14), []⟩, ⟨3, (some 51), none, .call (.c (.func (.func 127) #[] #[])) [.t 48, .t 49, .t 50], []⟩, ⟨4, (some 47), none, .mov (.t 51), []⟩, ⟨5, (some 52), none, .ext (.t 47) 0, []⟩, ⟨6, (some 53), none, .ext (.t 47) 1, []⟩, ⟨7, (some 17), none, .mov (.t 52), []⟩, ⟨8, (some 18), none, .mov (.t 53), []⟩]) (.seq (.ops [⟨0, (some 54), none, .mov (.t 14), []⟩, ⟨1, (some 55), none, .mov (.t 18), []⟩, ⟨2, (some 13), none, .mov (.t 54), []⟩, ⟨3, (some 14), none, .mov (.t 55), []⟩]) (.seq (.ops [⟨0, (some 56), none, .mov (.t 15), []⟩, ⟨1, (some 57), none, .mov (.t 9), []⟩, ⟨2, (some 58), none, .mov (.t 0), []⟩, ⟨3, (some 59), none, .mov (.t 17), []⟩, ⟨4, (some 60), none, .mov (.t 15), []⟩, ⟨5, (some 61), none, .call (.c (.func (.func 129) #[] #[])) [.t 58, .t 59, .t 60], []⟩, ⟨6, (some 62), none, .call (.c (.func (.func 128) #[] #[])) [.t 57, .t 61], []⟩, ⟨7, (some 9), none, .mov (.t 56), []⟩, ⟨8, (some 15), none, .mov (.t 62), []⟩]) (.ops [⟨0, (some 63), none, .mov (.t 16), []⟩, ⟨1, (some 64), none, .mov (.t 10), []⟩, ⟨2, (some 65), none, .mov (.t 0), []⟩, ⟨3, (some 66), none, .mov (.t 17), []⟩, ⟨4, (some 67), none, .mov (.t 16), []⟩, ⟨5, (some 68), none, .call (.c (.func (.func 129) #[] #[])) [.t 65, .t 66, .t 67], []⟩, ⟨6, (some 69), none, .call (.c (.func (.func 128) #[] #[])) [.t 64, .t 68], []⟩, ⟨7, (some 10), none, .mov (.t 63), []⟩, ⟨8, (some 16), none, .mov (.t 69), []⟩]))))))))) (.seq (.ops [⟨0, (some 70), none, .mov (.t 13), []⟩, ⟨1, (some 71), none, .mov (.t 9), []⟩, ⟨2, (some 72), none, .call (.c (.func (.func 125) #[] #[])) [.t 71], []⟩, ⟨3, (some 73), none, .mov (.t 10), []⟩, ⟨4, (some 74), none, .call (.c (.func (.func 125) #[] #[])) [.t 73], []⟩, ⟨5, (some 8), none, .mov (.t 70), []⟩, ⟨6, (some 9), none, .mov (.t 72), []⟩, ⟨7, (some 10), none, .mov (.t 74), []⟩, ⟨8, (some 11), none, .mov (.c (.int .i64 0)), []⟩]) .ret)))))))
attribute [irreducible] c_polys_Ring_b_Partial
theorem run_polys_Ring_b_Partial {args : List Value} {w : World} {K : Value → World → Prop} (hn : args.length ≤ 75) (h : WP Try.prog c_polys_Ring_b_Partial (endQ [.t 8, .t 9, .t 10, .t 11] K) (initT args) w) : CallV Try.prog 90 args w K :=
  call_of follows Try.func90 (by kernel_rfl) (by kernel_rfl) hn h
end Go.Proofs.Ytbaljbadlfopgaa.Fw
namespace Go.Proofs.Ytbaljbadlfopgaa.Fw
open Go Go.Fw
theorem polys_Ring_b_Partial_spec (w : World) (r s1 s2 : Value) (l1 l2 : List (El 8)) (d : Int) (hr : Ring_b w r) (h1 : Sl w s1 l1) (h2 : Sl w s2 l2) (hb1 : l1.length ≤ 70368744175616) (hb2 : l2.length ≤ 70368744175616) :
    CallV Try.prog 90 [r, s1, s2, .int .i64 d] w fun v w' => RowKit.Below w.heap.size w w' ∧
      ((l1.length ≤ 1024 ∧ l2.length ≤ 1024 ∧ 0 ≤ d ∧ ∃ sm su sv m u v', v = .tuple #[sm, su, sv, .int .i64 0] ∧ Ow w.heap.size w' sm m ∧ Ow w.heap.size w' su u ∧ Ow w.heap.size w' sv v' ∧ Eu d.toNat (tr l1) (tr l2) [1] [] [] [1] m u v') ∨
       (l1.length ≤ 1024 ∧ l2.length ≤ 1024 ∧ d < 0 ∧ v = .tuple #[.slice none 0 0, .slice none 0 0, .slice none 0 0, .int .i64 7]) ∨
       (¬ (l1.length ≤ 1024 ∧ l2.length ≤ 1024) ∧ v = .tuple #[.slice none 0 0, .slice none 0 0, .slice none 0 0, .int .i64 5])) := by
  refine run_polys_Ring_b_Partial (by simp) ?_
  simp only [c_polys_Ring_b_Partial, WS, List.getElem_cons_zero, List.getElem_cons_succ, Option.isNone_some, Option.isNone_none, List.getD_cons_zero, List.getD_cons_succ, I.at, atL, atO, atP, evp, evs, retV, ↓reduceIte, Nat.reduceEqDiff, reduceCtorEq]
  obtain ⟨e1, n1⟩ := h1.hd
  obtain ⟨e2, n2⟩ := h2.hd
  refine X_bsl (zs := [hd s1, hd s2]) (fill2 h1 h2) rfl fun ls w1 ho hB => ?_
  obtain ⟨b, mv, iv, rfl, -, -⟩ := id hr
  simp only [WS, List.getElem_cons_zero, List.getElem_cons_succ, Option.isNone_some, Option.isNone_none, List.getD_cons_zero, List.getD_cons_succ, I.at, atL, atO, atP, evp, evs, retV, ↓reduceIte, Nat.reduceEqDiff, reduceCtorEq]
  refine X_call0 ((polys_Ring_b_refuses_spec w1 _ ls _ ho.sl (by simp) (by simp [n1, n2]; omega)).mono ?_)
  rintro v w' ⟨rfl, rfl⟩
  have hiff : (∀ x ∈ [hd s1, hd s2], x.n ≤ 1024) = (l1.length ≤ 1024 ∧ l2.length ≤ 1024) := by simp [n1, n2]
  by_cases hsz : l1.length ≤ 1024 ∧ l2.length ≤ 1024
  · rw [if_pos (hiff.mpr hsz)]
    simp only [WS, List.getElem_cons_zero, List.getElem_cons_succ, Option.isNone_some, Option.isNone_none, List.getD_cons_zero, List.getD_cons_succ, I.at, atL, atO, atP, evp, evs, retV, ↓reduceIte, Nat.reduceEqDiff, reduceCtorEq, show decide ((0 : Int) = 0) = true from rfl]
    by_cases hd0 : d < 0
    · simp (maxSteps := 1000000) (disch := omega) only [WS, List.getElem_cons_zero, List.getElem_cons_succ, Option.isNone_some, Option.isNone_none, List.getD_cons_zero, List.getD_cons_succ, I.at, atL, atO, atP, evp, evs, retV, ↓reduceIte, Nat.reduceEqDiff, reduceCtorEq, AS]
      exact ⟨hB, Or.inr (Or.inl ⟨hsz.1, hsz.2, hd0⟩)⟩
    obtain ⟨D, rfl⟩ : ∃ D : Nat, d = (D : Int) := ⟨d.toNat, by omega⟩
    rw [Int.toNat_natCast]
    simp (maxSteps := 1000000) (disch := omega) only [WS, List.getElem_cons_zero, List.getElem_cons_succ, Option.isNone_some, Option.isNone_none, List.getD_cons_zero, List.getD_cons_succ, I.at, atL, atO, atP, evp, evs, retV, ↓reduceIte, Nat.reduceEqDiff, reduceCtorEq, AS]
    refine X_call0 ((polys_copied_b_spec w' s1 l1 (h1.up hB) hb1).mono ?_)
    rintro sa w2 ⟨oa, hB2⟩
    have B2 : RowKit.Below w.heap.size w w2 := hB.trans (hB2.mono hB.size)
    simp (maxSteps := 1000000) (disch := omega) only [WS, List.getElem_cons_zero, List.getElem_cons_succ, Option.isNone_some, Option.isNone_none, List.getD_cons_zero, List.getD_cons_succ, I.at, atL, atO, atP, evp, evs, retV, ↓reduceIte, Nat.reduceEqDiff, reduceCtorEq, AS]
    refine X_call0 ((polys_copied_b_spec w2 s2 l2 (h2.up B2) hb2).mono ?_)
    rintro sb w3 ⟨ob, hB3⟩
    have B3 : RowKit.Below w.heap.size w w3 := B2.trans (hB3.mono B2.size)
    have oa := (oa.up hB3).mono hB.size
    have ob := ob.mono B2.size
    simp (maxSteps := 1000000) (disch := omega) only [WS, List.getElem_cons_zero, List.getElem_cons_succ, Option.isNone_some, Option.isNone_none, List.getD_cons_zero, List.getD_cons_succ, I.at, atL, atO, atP, evp, evs, retV, ↓reduceIte, Nat.reduceEqDiff, reduceCtorEq, AS]
    refine X_bsl (zs := [(1 : El 8)]) (by rfl) rfl fun su w4 ou hB4 => ?_
    have oa := oa.up hB4
    have ob := ob.up hB4
    have B4 := B3.trans (hB4.mono B3.size)
    have ou := ou.mono B3.size
    simp (maxSteps := 1000000) (disch := omega) only [WS, List.getElem_cons_zero, List.getElem_cons_succ, Option.isNone_some, Option.isNone_none, List.getD_cons_zero, List.getD_cons_succ, I.at, atL, atO, atP, evp, evs, retV, ↓reduceIte, Nat.reduceEqDiff, reduceCtorEq, AS]
    refine X_bsl (zs := [(1 : El 8)]) (by rfl) rfl fun st w5 ot hB5 => ?_
    have oa := oa.up hB5
    have ob := ob.up hB5
    have ou := ou.up hB5
    have B5 := B4.trans (hB5.mono B4.size)
    have ot := ot.mono B4.size
    clear hB hB2 hB3 hB4 hB5 B2 B3 B4
    simp (maxSteps := 1000000) (disch := omega) only [WS, List.getElem_cons_zero, List.getElem_cons_succ, Option.isNone_some, Option.isNone_none, List.getD_cons_zero, List.getD_cons_succ, I.at, atL, atO, atP, evp, evs, retV, ↓reduceIte, Nat.reduceEqDiff, reduceCtorEq, AS]
    have q1 := tln_le l1
    have q2 := tln_le l2
    refine loop_of (fun t w' => t 0 = .pointer (some ⟨b, 0, none⟩) ∧ t 3 = .int .i64 (D : Int) ∧ RowKit.Below w.heap.size w w' ∧ ∃ (sa sb su sv ss st : Value) (la lb lu lv ls lt : List (El 8)), t 13 = sa ∧ t 14 = sb ∧ t 9 = su ∧ t 10 = sv ∧ t 15 = ss ∧ t 16 = st ∧
        Ow w.heap.size w' sa la ∧ Ow w.heap.size w' sb lb ∧ Ow w.heap.size w' su lu ∧ Ow w.heap.size w' sv lv ∧ Ow w.heap.size w' ss ls ∧ Ow w.heap.size w' st lt ∧ tr la = la ∧ tr lb = lb ∧ tr lu = lu ∧ tr lv = lv ∧ tr ls = ls ∧ tr lt = lt ∧ la.length ≤ 1024 ∧ lb.length ≤ 1024 ∧
        lu.length + 1025 * lb.length ≤ 1101024 ∧ ls.length + 1025 * lb.length ≤ 1100000 ∧ lv.length + 1025 * lb.length ≤ 1101024 ∧ lt.length + 1025 * lb.length ≤ 1100000 ∧
        ∀ x y z, Eu D la lb lu lv ls lt x y z → Eu D (tr l1) (tr l2) [1] [] [] [1] x y z)
      (fun t w' => match t 14 with | .slice _ n _ => n | _ => 0) ⟨by simp only [WS, List.getElem_cons_zero, List.getElem_cons_succ, Option.isNone_some, Option.isNone_none, List.getD_cons_zero, List.getD_cons_succ, I.at, atL, atO, atP, evp, evs, retV, ↓reduceIte, Nat.reduceEqDiff, reduceCtorEq], by simp only [WS, List.getElem_cons_zero, List.getElem_cons_succ, Option.isNone_some, Option.isNone_none, List.getD_cons_zero, List.getD_cons_succ, I.at, atL, atO, atP, evp, evs, retV, ↓reduceIte, Nat.reduceEqDiff, reduceCtorEq], B5, sa, sb, su, _, _, st, tr l1, tr l2, [1], [], [], [1], by simp only [WS, List.getElem_cons_zero, List.getElem_cons_succ, Option.isNone_some, Option.isNone_none, List.getD_cons_zero, List.getD_cons_succ, I.at, atL, atO, atP, evp, evs, retV, ↓reduceIte, Nat.reduceEqDiff, reduceCtorEq], by simp only [WS, List.getElem_cons_zero, List.getElem_cons_succ, Option.isNone_some, Option.isNone_none, List.getD_cons_zero, List.getD_cons_succ, I.at, atL, atO, atP, evp, evs, retV, ↓reduceIte, Nat.reduceEqDiff, reduceCtorEq], by simp only [WS, List.getElem_cons_zero, List.getElem_cons_succ, Option.isNone_some, Option.isNone_none, List.getD_cons_zero, List.getD_cons_succ, I.at, atL, atO, atP, evp, evs, retV, ↓reduceIte, Nat.reduceEqDiff, reduceCtorEq], by simp only [WS, List.getElem_cons_zero, List.getElem_cons_succ, Option.isNone_some, Option.isNone_none, List.getD_cons_zero, List.getD_cons_succ, I.at, atL, atO, atP, evp, evs, retV, ↓reduceIte, Nat.reduceEqDiff, reduceCtorEq], by simp only [WS, List.getElem_cons_zero, List.getElem_cons_succ, Option.isNone_some, Option.isNone_none, List.getD_cons_zero, List.getD_cons_succ, I.at, atL, atO, atP, evp, evs, retV, ↓reduceIte, Nat.reduceEqDiff, reduceCtorEq], by simp only [WS, List.getElem_cons_zero, List.getElem_cons_succ, Option.isNone_some, Option.isNone_none, List.getD_cons_zero, List.getD_cons_succ, I.at, atL, atO, atP, evp, evs, retV, ↓reduceIte, Nat.reduceEqDiff, reduceCtorEq], oa, ob, ou, Ow.nil _ _, Ow.nil _ _, ot, tr_tr l1, tr_tr l2, tr_one, tr_nil, tr_nil, tr_one,
        by rw [tr_len]; omega, by rw [tr_len]; omega, by rw [tr_len]; simp; omega, by rw [tr_len]; simp; omega, by rw [tr_len]; simp; omega, by rw [tr_len]; simp; omega, fun x y z h => h⟩ ?_
    clear oa ob ou ot B5
    rintro t w6 ⟨t0, t3, B6, sa, sb, su, sv, ss, st, la, lb, lu, lv, ls, lt, t13, t14, t9, t10, t15, t16, oa, ob, ou, ov, os, ot, ta, tb, tu, tv, ts, tt, na, nb, nu, ns, nv, nt, hE⟩
    have wl : IntKind.i64.wrap ((la.length : Int) - 1) = (la.length : Int) - 1 := wrap_id (by omega) (by omega)
    by_cases hda : D < la.length
    · by_cases hz : lb.length = 0
      · obtain rfl : lb = [] := List.eq_nil_of_length_eq_zero hz
        simp (maxSteps := 1000000) (disch := omega) only [WS, List.getElem_cons_zero, List.getElem_cons_succ, Option.isNone_some, Option.isNone_none, List.getD_cons_zero, List.getD_cons_succ, I.at, atL, atO, atP, evp, evs, retV, ↓reduceIte, Nat.reduceEqDiff, reduceCtorEq, AS, t0, t3, t13, t14, t9, t10, t15, t16, oa.sl.Xlen, ob.sl.Xlen, wl]
        refine X_call0 ((polys_copied_b_spec w6 ss ls os.sl (by omega)).mono ?_)
        rintro s1' w7 ⟨o1, hB7⟩
        have ot := ot.up hB7
        have B7 := B6.trans (hB7.mono B6.size)
        have o1 := o1.mono B6.size
        simp (maxSteps := 1000000) (disch := omega) only [WS, List.getElem_cons_zero, List.getElem_cons_succ, Option.isNone_some, Option.isNone_none, List.getD_cons_zero, List.getD_cons_succ, I.at, atL, atO, atP, evp, evs, retV, ↓reduceIte, Nat.reduceEqDiff, reduceCtorEq, AS, t0, t3, t13, t14, t9, t10, t15, t16]
        refine X_call0 ((polys_copied_b_spec w7 st lt ot.sl (by omega)).mono ?_)
        rintro s2' w8 ⟨o2, hB8⟩
        have o1 := o1.up hB8
        have B8 := B7.trans (hB8.mono B7.size)
        have o2 := o2.mono B7.size
        simp (maxSteps := 1000000) (disch := omega) only [WS, List.getElem_cons_zero, List.getElem_cons_succ, Option.isNone_some, Option.isNone_none, List.getD_cons_zero, List.getD_cons_succ, I.at, atL, atO, atP, evp, evs, retV, ↓reduceIte, Nat.reduceEqDiff, reduceCtorEq, AS]
        rw [ts] at o1
        rw [tt] at o2
        exact ⟨B8, Or.inl ⟨hsz.1, hsz.2, by omega, _, s1', s2', [], ls, lt, rfl, Ow.nil _ _, o1, o2, hE _ _ _ (Eu.zero hda)⟩⟩
      · have hlen := len_tr tb
        have hlna := len_tr ta
        simp (maxSteps := 1000000) (disch := omega) only [WS, List.getElem_cons_zero, List.getElem_cons_succ, Option.isNone_some, Option.isNone_none, List.getD_cons_zero, List.getD_cons_succ, I.at, atL, atO, atP, evp, evs, retV, ↓reduceIte, Nat.reduceEqDiff, reduceCtorEq, AS, t0, t3, t13, t14, t9, t10, t15, t16, oa.sl.Xlen, ob.sl.Xlen, wl]
        refine X_call0 ((polys_Ring_b_divided_spec w6 _ sa sb la lb (hr.up B6) oa.sl ob.sl (by omega) (by omega) (by omega)).mono ?_)
        rintro _ w7 ⟨sq, sm, qq, m, rfl, oq, om, tq, tm, hco, hml, hql, hB⟩
        have oq := oq.mono B6.size
        have om := om.mono B6.size
        have ob := ob.up hB
        have ou := ou.up hB
        have ov := ov.up hB
        have os := os.up hB
        have ot := ot.up hB
        have B6 := B6.trans (hB.mono B6.size)
        clear hB
        simp (maxSteps := 1000000) (disch := omega) only [WS, List.getElem_cons_zero, List.getElem_cons_succ, Option.isNone_some, Option.isNone_none, List.getD_cons_zero, List.getD_cons_succ, I.at, atL, atO, atP, evp, evs, retV, ↓reduceIte, Nat.reduceEqDiff, reduceCtorEq, AS, t0, t3, t13, t14, t9, t10, t15, t16]
        refine X_call0 ((polys_Ring_b_product_spec w7 _ sq ss qq ls (hr.up B6) oq.sl os.sl (by omega) (by omega)).mono ?_)
        rintro sp w8 ⟨lp, op, tp, cp, np, hB⟩
        have op := op.mono B6.size
        have ob := ob.up hB
        have ou := ou.up hB
        have ov := ov.up hB
        have os := os.up hB
        have ot := ot.up hB
        have oq := oq.up hB
        have om := om.up hB
        have B6 := B6.trans (hB.mono B6.size)
        clear hB
        simp (maxSteps := 1000000) (disch := omega) only [WS, List.getElem_cons_zero, List.getElem_cons_succ, Option.isNone_some, Option.isNone_none, List.getD_cons_zero, List.getD_cons_succ, I.at, atL, atO, atP, evp, evs, retV, ↓reduceIte, Nat.reduceEqDiff, reduceCtorEq, AS, t0, t3, t13, t14, t9, t10, t15, t16]
        refine X_call0 ((polys_added_b_spec w8 su sp lu lp ou.sl op.sl (by omega) (by omega)).mono ?_)
        rintro su' w9 ⟨lu', ou', tu', cu', nu', hB⟩
        have ou' := ou'.mono B6.size
        have ob := ob.up hB
        have ov := ov.up hB
        have os := os.up hB
        have ot := ot.up hB
        have oq := oq.up hB
        have om := om.up hB
        have B6 := B6.trans (hB.mono B6.size)
        clear hB
        simp (maxSteps := 1000000) (disch := omega) only [WS, List.getElem_cons_zero, List.getElem_cons_succ, Option.isNone_some, Option.isNone_none, List.getD_cons_zero, List.getD_cons_succ, I.at, atL, atO, atP, evp, evs, retV, ↓reduceIte, Nat.reduceEqDiff, reduceCtorEq, AS, t0, t3, t13, t14, t9, t10, t15, t16]
        refine X_call0 ((polys_Ring_b_product_spec w9 _ sq st qq lt (hr.up B6) oq.sl ot.sl (by omega) (by omega)).mono ?_)
        rintro sp2 w10 ⟨lp2, op2, tp2, cp2, np2, hB⟩
        have op2 := op2.mono B6.size
        have ob := ob.up hB
        have ov := ov.up hB
        have os := os.up hB
        have ot := ot.up hB
        have om := om.up hB
        have ou' := ou'.up hB
        have B6 := B6.trans (hB.mono B6.size)
        clear hB
        simp (maxSteps := 1000000) (disch := omega) only [WS, List.getElem_cons_zero, List.getElem_cons_succ, Option.isNone_some, Option.isNone_none, List.getD_cons_zero, List.getD_cons_succ, I.at, atL, atO, atP, evp, evs, retV, ↓reduceIte, Nat.reduceEqDiff, reduceCtorEq, AS, t0, t3, t13, t14, t9, t10, t15, t16]
        refine X_call0 ((polys_added_b_spec w10 sv sp2 lv lp2 ov.sl op2.sl (by omega) (by omega)).mono ?_)
        rintro sv' w11 ⟨lv', ov', tv', cv', nv', hB⟩
        have ov' := ov'.mono B6.size
        have ob := ob.up hB
        have os := os.up hB
        have ot := ot.up hB
        have om := om.up hB
        have ou' := ou'.up hB
        have B6 := B6.trans (hB.mono B6.size)
        clear hB
        simp (maxSteps := 1000000) (disch := omega) only [WS, List.getElem_cons_zero, List.getElem_cons_succ, Option.isNone_some, Option.isNone_none, List.getD_cons_zero, List.getD_cons_succ, I.at, atL, atO, atP, evp, evs, retV, ↓reduceIte, Nat.reduceEqDiff, reduceCtorEq, AS, t0, t3, t13, t14, t9, t10, t15, t16]
        refine ⟨⟨B6, sb, sm, ss, st, su', sv', lb, m, ls, lt, lu', lv', rfl, rfl, rfl, rfl, rfl, rfl, ob, om, os, ot, ou', ov', tb, tm, ts, tt, tu', tv', nb, by omega, by omega, by omega, by omega, by omega, fun x y z h => hE _ _ _ ?_⟩, ?_⟩
        · exact Eu.step hda (by rintro rfl; simp at hz) tq tm hco (by omega) tu' (by rw [cu', cp]) tv' (by rw [cv', cp2]) h
        · obtain ⟨a1, c1, e3, -, -⟩ := om.sl.sh
          obtain ⟨a2, c2, e4, -, -⟩ := ob.sl.sh
          rw [e3, e4]
          show m.length < lb.length
          omega
    · simp (maxSteps := 1000000) (disch := omega) only [WS, List.getElem_cons_zero, List.getElem_cons_succ, Option.isNone_some, Option.isNone_none, List.getD_cons_zero, List.getD_cons_succ, I.at, atL, atO, atP, evp, evs, retV, ↓reduceIte, Nat.reduceEqDiff, reduceCtorEq, AS, t0, t3, t13, t14, t9, t10, t15, t16, oa.sl.Xlen, wl]
      refine X_call0 ((polys_copied_b_spec w6 su lu ou.sl (by omega)).mono ?_)
      rintro s1' w7 ⟨o1, hB7⟩
      have oa := oa.up hB7
      have ov := ov.up hB7
      have B7 := B6.trans (hB7.mono B6.size)
      have o1 := o1.mono B6.size
      simp (maxSteps := 1000000) (disch := omega) only [WS, List.getElem_cons_zero, List.getElem_cons_succ, Option.isNone_some, Option.isNone_none, List.getD_cons_zero, List.getD_cons_succ, I.at, atL, atO, atP, evp, evs, retV, ↓reduceIte, Nat.reduceEqDiff, reduceCtorEq, AS, t0, t3, t13, t14, t9, t10, t15, t16]
      refine X_call0 ((polys_copied_b_spec w7 sv lv ov.sl (by omega)).mono ?_)
      rintro s2' w8 ⟨o2, hB8⟩
      have o1 := o1.up hB8
      have oa := oa.up hB8
      have B8 := B7.trans (hB8.mono B7.size)
      have o2 := o2.mono B7.size
      simp (maxSteps := 1000000) (disch := omega) only [WS, List.getElem_cons_zero, List.getElem_cons_succ, Option.isNone_some, Option.isNone_none, List.getD_cons_zero, List.getD_cons_succ, I.at, atL, atO, atP, evp, evs, retV, ↓reduceIte, Nat.reduceEqDiff, reduceCtorEq, AS, t0, t3, t13, t14, t9, t10, t15, t16]
      rw [tu] at o1
      rw [tv] at o2
      exact ⟨B8, Or.inl ⟨hsz.1, hsz.2, by omega, sa, s1', s2', la, lu, lv, rfl, oa, o1, o2, hE _ _ _ (Eu.stop (by omega))⟩⟩
  · rw [if_neg (fun e => hsz (hiff.mp e))]
    simp only [WS, List.getElem_cons_zero, List.getElem_cons_succ, Option.isNone_some, Option.isNone_none, List.getD_cons_zero, List.getD_cons_succ, I.at, atL, atO, atP, evp, evs, retV, ↓reduceIte, Nat.reduceEqDiff, reduceCtorEq, show decide ((5 : Int) = 0) = false from rfl]
    exact ⟨hB, Or.inr (Or.inr hsz)⟩
end Go.Proofs.Ytbaljbadlfopgaa.Fw

/- Lagrange's form: the product of all X + x but one; two interpolations of the same values are one. -/
set_option linter.unusedVariables false
set_option linter.unusedSimpArgs false
namespace Go.Fw
open Go
section
variable {n : Nat} [F : Fd n]
theorem nodup_of {l : List (El n)} (hnd : ∀ a b, a < l.length → b < l.length → l.getD a 0 = l.getD b 0 → a = b) : l.Nodup := by
  refine List.pairwise_iff_getElem.2 fun a b ha hb hab e => ?_
  have := hnd a b ha hb (by rw [List.getD_eq_getElem?_getD, List.getD_eq_getElem?_getD, List.getElem?_eq_getElem ha, List.getElem?_eq_getElem hb]; exact e)
  omega
theorem mem_getD {l : List (El n)} {z : El n} (h : z ∈ l) : ∃ j, j < l.length ∧ l.getD j 0 = z := by
  obtain ⟨j, hj, e⟩ := List.getElem_of_mem h
  exact ⟨j, hj, by rw [List.getD_eq_getElem?_getD, List.getElem?_eq_getElem hj]; exact e⟩
/-- What the division of the whole by X + x leaves. -/
theorem oth {l q m : List (El n)} {i : Nat} (hi : i < l.length) (hnd : ∀ a b, a < l.length → b < l.length → l.getD a 0 = l.getD b 0 → a = b) (tq : tr q = q) (tm : tr m = m) (he : vps l = co q * lin l[i] + co m) (hm : m.length < 2) :
    q.length = l.length ∧ evl q l[i] ≠ 0 ∧ ∀ j, j < l.length → j ≠ i → evl q (l.getD j 0) = 0 := by
  have hQ : co (ofc (l.length + 1) (vps l)) = vps l := ofc_co (vps_dg l)
  have hz : ∀ z, z ∈ l → evn (vps l) z (l.length + 1) = 0 := fun z hz => (ev_vps_zero z l).2 hz
  have hQe : ∀ z, evl (ofc (l.length + 1) (vps l)) z = evn (vps l) z (l.length + 1) := fun z => by rw [evl_co, hQ, ofc_len]
  have hm0 : m = [] := by
    have h1 := root_rem (Q := ofc (l.length + 1) (vps l)) (q := q) (m := m) (x := l[i]) (by rw [hQ, he])
    rw [hQe, hz _ (List.getElem_mem hi)] at h1
    rw [rem_list tm hm l[i], if_pos h1.symm]
  subst hm0
  have he2 : vps l = lin l[i] * co q := by rw [he, co_nil, Ps.add_zero, Ps.mul_comm]
  have hql : q.length = l.length := by
    have tQ : tr (ofc (l.length + 1) (vps l)) = ofc (l.length + 1) (vps l) := by
      have h2 : tln (ofc (l.length + 1) (vps l)) = l.length + 1 := tln_of (by rw [hQ]; exact vps_dg l) (Or.inr (by rw [hQ, Nat.add_sub_cancel, vps_top]; exact El.one_ne))
      unfold tr
      rw [h2]
      exact List.take_of_length_le (by rw [ofc_len]; exact Nat.le_refl _)
    have tb : tr [l[i], (1 : El n)] = [l[i], 1] := by
      unfold tr
      rw [tln_lin]; rfl
    have := quo_len (a := ofc (l.length + 1) (vps l)) (q := q) (b := [l[i], 1]) (m := []) tQ tq tb (by rw [hQ, co_lin]; exact he) (by simp) (by rw [ofc_len]; simp; omega)
    rw [ofc_len] at this
    simp at this
    omega
  have hev : ∀ z, evn (vps l) z (l.length + 1) = (l[i] + z) * evl q z := fun z => by
    rw [he2, evl_co, hql, ev_lin_mul _ _ (by rw [← hql]; exact co_dg q)]
  have gi : l.getD i 0 = l[i] := by rw [List.getD_eq_getElem?_getD, List.getElem?_eq_getElem hi]; rfl
  have hoth : ∀ j, j < l.length → j ≠ i → evl q (l.getD j 0) = 0 := fun j hj hji => by
    have hmem : l.getD j 0 ∈ l := by rw [List.getD_eq_getElem?_getD, List.getElem?_eq_getElem hj]; exact List.getElem_mem hj
    have h3 := hev (l.getD j 0)
    rw [hz _ hmem] at h3
    have hne : l[i] + l.getD j 0 ≠ 0 := fun e => by
      have h4 := El.eq_of_add0 e
      rw [← gi] at h4
      exact hji (hnd j i hj hi h4.symm)
    have h5 : (l[i] + l.getD j 0).inv * ((l[i] + l.getD j 0) * evl q (l.getD j 0)) = 0 := by rw [← h3, El.mul_zero]
    rwa [← El.mul_assoc, El.mul_comm (l[i] + l.getD j 0).inv, El.mul_inv _ hne, El.one_mul] at h5
  refine ⟨hql, fun h0 => ?_, hoth⟩
  have h6 : co q = 0 := roots_zero l q (nodup_of hnd) (by omega) fun z hz => by
    obtain ⟨j, hj, rfl⟩ := mem_getD hz
    by_cases hji : j = i
    · subst hji; rw [gi]; exact h0
    · exact hoth j hj hji
  have h7 := vps_top l
  rw [he2, h6, Ps.mul_zero] at h7
  exact El.one_ne h7.symm
/-- One summand more. -/
theorem lag_step {l ls ms q : List (El n)} {i : Nat} {c y : El n} (hi : i < l.length) (hq : q.length = l.length) (h0 : ∀ j, j < l.length → j ≠ i → evl q (l.getD j 0) = 0) (hcy : c * evl q (l.getD i 0) = y)
    (hls : ls.length = l.length) (hms : ms.length = l.length) (hc : ∀ k, k < l.length → (co ms).c k = (co ls).c k + c * (co q).c k) {Y : Nat → El n} (hy : Y i = y) (hv : ∀ j, j < l.length → evl ls (l.getD j 0) = if j < i then Y j else 0) :
    ∀ j, j < l.length → evl ms (l.getD j 0) = if j < i + 1 then Y j else 0 := by
  intro j hj
  have e : co ms = co ls + Ps.C c * co q := ps_eq l.length (by rw [← hms]; exact co_dg ms) (Dg.add (by rw [← hls]; exact co_dg ls) (Cm_dg _ (by rw [← hq]; exact co_dg q))) fun k hk => by rw [hc k hk, Ps.add_c, Ps.C_mul]
  have h1 := hv j hj
  rw [evl_co, hls] at h1
  have h2 : evn (co q) (l.getD j 0) l.length = evl q (l.getD j 0) := by rw [evl_co, hq]
  rw [evl_co, hms, e, evn_add, ev_Cm, h1, h2]
  by_cases hji : j = i
  · subst hji
    rw [hcy, if_neg (by omega), El.zero_add, if_pos (by omega), hy]
  · rw [h0 j hj hji, El.mul_zero, El.add_zero]
    by_cases h3 : j < i
    · rw [if_pos h3, if_pos (by omega)]
    · rw [if_neg h3, if_neg (by omega)]
theorem lag_skip {l ls : List (El n)} {i : Nat} {Y : Nat → El n} (hy : Y i = 0) (hv : ∀ j, j < l.length → evl ls (l.getD j 0) = if j < i then Y j else 0) :
    ∀ j, j < l.length → evl ls (l.getD j 0) = if j < i + 1 then Y j else 0 := by
  intro j hj
  rw [hv j hj]
  by_cases hji : j = i
  · subst hji
    rw [if_neg (by omega), if_pos (by omega), hy]
  · by_cases h3 : j < i
    · rw [if_pos h3, if_pos (by omega)]
    · rw [if_neg h3, if_neg (by omega)]
end
end Go.Fw

/- The decoder: of values that are those of a short polynomial at all but few points, Euclid's remainder divided by its factor is that polynomial. -/
set_option linter.unusedVariables false
set_option linter.unusedSimpArgs false
namespace Go.Fw
open Go
section
variable {n : Nat} [F : Fd n]
/-- The places at which the polynomial's values are not these. -/
def offs (g : List (El n)) (X Y : Nat → El n) (N : Nat) : List Nat := (List.range N).filter fun j => !decide (evl g (X j) = Y j)
theorem offs_mem {g : List (El n)} {X Y : Nat → El n} {N j : Nat} : j ∈ offs g X Y N ↔ j < N ∧ evl g (X j) ≠ Y j := by
  unfold offs
  rw [List.mem_filter, List.mem_range]
  simp
theorem evn_more2 {f : Ps n} {d e : Nat} (x : El n) (hd : Dg f d) (h : d ≤ e) : evn f x e = evn f x d := evn_eq (hd.mono h) hd
theorem mul_eq_zero' {w p : List (El n)} (hw : tln w ≠ 0) (h : co w * co p = 0) : co p = 0 := by
  by_cases hp : tln p = 0
  · exact co_zero_of_tln hp
  · exfalso
    have h1 := tln_mul (p := ([] : List (El n))) (by rw [h, co_nil]) hw hp
    simp [tln] at h1
    omega
theorem vps_tln (l : List (El n)) {w : List (El n)} (h : co w = vps l) : tln w = l.length + 1 := tln_of (by rw [h]; exact vps_dg l) (Or.inr (by rw [h, Nat.add_sub_cancel, vps_top]; exact El.one_ne))
theorem gao {N k d : Nat} {X Y : Nat → El n} (hX : ∀ a b, a < N → b < N → X a = X b → a = b) {A f m u v g : List (El n)} (hA : co A = vps ((List.range N).map X)) (hf : Dg (co f) N) (hfv : ∀ j, j < N → evn (co f) (X j) N = Y j)
    (h : Eu d (tr A) (tr f) [1] [] [] [1] m u v) (hk : k < N) (hd : d = (N + k + 1) / 2) (hg : Dg (co g) k) (hn : (offs g X Y N).length ≤ (N - k) / 2) : co m = co v * co g ∧ v ≠ [] := by
  have P := h.whole
  have tA : tln A = N + 1 := by rw [vps_tln _ hA]; simp
  have tf : tln f ≤ N := by
    have := len_le (a := tr f) (tr_tr f) (k := N) (by rw [tr_co]; exact hf)
    rwa [tr_len] at this
  obtain ⟨-, -, -, hz⟩ := h.lens
  have hvl : v.length + d ≤ N + 1 := by rw [← tA]; exact hz (by omega) (by omega)
  have hml := P.lm
  generalize he : (offs g X Y N).length = e at hn
  have dA : Dg (co A) (N + 1) := by rw [← tA]; exact tln_dg A
  have zA : ∀ j, j < N → evn (co A) (X j) (N + 1) = 0 := fun j hj => by
    have h1 := (ev_vps_zero (X j) ((List.range N).map X)).2 (List.mem_map.2 ⟨j, List.mem_range.2 hj, rfl⟩)
    rw [List.length_map, List.length_range] at h1
    rw [hA]; exact h1
  -- m at the points
  have hm : ∀ j, j < N → evn (co m) (X j) m.length = evn (co v) (X j) v.length * Y j := fun j hj => by
    have dv : Dg (co v * co f) (v.length + N) := ((co_dg v).mul hf).mono (by omega)
    have du : Dg (co u * co A) (u.length + (N + 1)) := ((co_dg u).mul dA).mono (by omega)
    obtain ⟨M, hM⟩ : ∃ M, M = m.length + u.length + v.length + N + N + 1 := ⟨_, rfl⟩
    have h1 : evn (co m) (X j) M = evn (co u * co A + co v * co f) (X j) M := by rw [P.eq]
    rw [evn_add, evn_more2 _ (co_dg m) (by omega), evn_more2 _ du (by omega), evn_more2 _ dv (by omega), evn_mul _ (co_dg u) dA, evn_mul _ (co_dg v) hf, zA j hj, El.mul_zero, El.zero_add, hfv j hj] at h1
    exact h1
  have hvne : v ≠ [] := by
    rintro rfl
    have e1 : co m = co u * co A := by rw [P.eq, co_nil, Ps.zero_mul, Ps.add_zero]
    have e2 : tln u = 0 := by
      by_cases hu : tln u = 0
      · exact hu
      · exfalso
        have h1 := tln_mul e1 hu (by omega)
        have := tln_le m
        omega
    obtain ⟨p, q, -, -, h1⟩ := P.cop
    rw [co_zero_of_tln e2, co_nil, Ps.mul_zero, Ps.mul_zero, Ps.add_zero] at h1
    exact El.one_ne (congrArg (fun f : Ps n => f.c 0) h1).symm
  refine ⟨?_, hvne⟩
  generalize hW : vps ((offs g X Y N).map X) = W
  have lW : ((offs g X Y N).map X).length = e := by rw [List.length_map, he]
  have dW : Dg W (e + 1) := by rw [← hW, ← lW]; exact vps_dg _
  have dvg : Dg (co v * co g) (v.length + k) := ((co_dg v).mul hg).mono (by omega)
  have dvg2 : Dg (co v * co g) (N - e) := ((co_dg v).mul hg).mono (by omega)
  have dF : Dg (co m + co v * co g) (N - e) := ((co_dg m).mono (by omega)).add dvg2
  have dP : Dg (W * (co m + co v * co g)) N := (dW.mul dF).mono (by omega)
  have hP : W * (co m + co v * co g) = 0 := zero_of X 0 N dP (fun a b ha hb e => hX a b ha hb (by simpa using e)) fun j hj => by
    rw [Nat.zero_add]
    rw [← evn_more2 (X j) dP (show N ≤ e + 1 + (N - e) by omega), evn_mul _ dW dF]
    by_cases hj2 : evl g (X j) = Y j
    · have h2 : evn (co m + co v * co g) (X j) (N - e) = 0 := by
        rw [evn_add, evn_more2 _ (co_dg m) (by omega), hm j hj, ← evn_more2 (X j) dvg2 (show N - e ≤ N + N + 1 + v.length + k by omega), evn_more2 _ dvg (by omega), evn_mul _ (co_dg v) hg]
        rw [evl_co, ← evn_eq (e := g.length) hg (co_dg g)] at hj2
        rw [hj2, El.add_self]
      rw [h2, El.mul_zero]
    · have h2 := (ev_vps_zero (X j) ((offs g X Y N).map X)).2 (List.mem_map.2 ⟨j, offs_mem.2 ⟨hj, hj2⟩, rfl⟩)
      rw [lW, hW] at h2
      rw [h2, El.zero_mul]
  have hWl : co (ofc (e + 1) W) = W := ofc_co dW
  have hFl : co (ofc (N - e) (co m + co v * co g)) = co m + co v * co g := ofc_co dF
  have h3 := mul_eq_zero' (w := ofc (e + 1) W) (p := ofc (N - e) (co m + co v * co g)) (by rw [vps_tln ((offs g X Y N).map X) (by rw [hWl, hW])]; omega) (by rw [hWl, hFl, hP])
  rw [hFl] at h3
  exact Ps.eq_of_add h3
/-- What divides with no remainder. -/
theorem gao_div {m v g q rest : List (El n)} (hm : co m = co v * co g) (hg : tr g = g) (tq : tr q = q) (tm : tr rest = rest) (he : co m = co q * co v + co rest) (hl : rest.length < tln v) : q = g ∧ rest = [] :=
  div_uniq tq tm hg tr_nil he (by rw [hm, co_nil, Ps.add_zero, Ps.mul_comm]) hl (by simp; omega)
theorem filter3 {α : Type} (p q : α → Bool) : ∀ l : List α, l.length ≤ (l.filter fun x => p x && q x).length + (l.filter fun x => !p x).length + (l.filter fun x => !q x).length
  | [] => by simp
  | a :: l => by
    have ih := filter3 p q l
    simp only [List.filter_cons]
    cases p a <;> cases q a <;> simp <;> omega
/-- At most one short polynomial is near. -/
theorem near_uniq {N k : Nat} {X Y : Nat → El n} (hX : ∀ a b, a < N → b < N → X a = X b → a = b) {g g' : List (El n)} (hk : k ≤ N) (tg : tr g = g) (tg' : tr g' = g') (hg : g.length ≤ k) (hg' : g'.length ≤ k)
    (h : (offs g X Y N).length + (offs g' X Y N).length + k ≤ N) : g = g' := by
  obtain ⟨L, hL⟩ : ∃ L, L = (List.range N).filter fun j => decide (evl g (X j) = Y j) && decide (evl g' (X j) = Y j) := ⟨_, rfl⟩
  have hmem : ∀ j, j ∈ L → j < N ∧ evl g (X j) = Y j ∧ evl g' (X j) = Y j := fun j hj => by
    rw [hL, List.mem_filter, List.mem_range] at hj
    simpa using hj
  have hlen : k ≤ L.length := by
    have h1 := filter3 (fun j => decide (evl g (X j) = Y j)) (fun j => decide (evl g' (X j) = Y j)) (List.range N)
    rw [List.length_range, ← hL] at h1
    unfold offs at h
    omega
  have hnd : (L.map X).Nodup := by
    have h0 : L.Pairwise (· < ·) := by rw [hL]; exact List.Pairwise.filter _ List.pairwise_lt_range
    unfold List.Nodup
    rw [List.pairwise_map]
    refine List.Pairwise.imp_of_mem (R := (· < ·)) (fun {a b} ha hb hab e => ?_) h0
    have := hX a b (hmem a ha).1 (hmem b hb).1 e
    omega
  have dS : Dg (co g + co g') k := ((co_dg g).mono hg).add ((co_dg g').mono hg')
  have h4 : co (ofc k (co g + co g')) = co g + co g' := ofc_co dS
  have h5 := roots_zero (L.map X) (ofc k (co g + co g')) hnd (by rw [ofc_len, List.length_map]; exact hlen) fun z hz => by
    obtain ⟨j, hj, rfl⟩ := List.mem_map.1 hz
    obtain ⟨-, h1, h2⟩ := hmem j hj
    rw [evl_co, h4, ofc_len, evn_add, evn_more2 _ (co_dg g) hg, evn_more2 _ (co_dg g') hg', ← evl_co, ← evl_co, h1, h2, El.add_self]
  rw [h4] at h5
  exact tr_inj tg tg' (Ps.eq_of_add h5)
end
end Go.Fw
