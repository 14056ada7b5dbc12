import Derived.Test.YtbaljbadlfopgaaProg
import Derived.Test.YtbaljbadlfopgaaFwTN
import Derived.Test.YtbaljbadlfopgaaSMnbN
set_option linter.all false
set_option linter.unusedVariables false
set_option linter.unusedSimpArgs false
set_option maxRecDepth 100000
set_option maxHeartbeats 1000000
namespace Go.Proofs.Ytbaljbadlfopgaa.Fw
open Go Go.Fw Go.Proofs
attribute [local irreducible] stepI
def c_polys_Ring_b_DivMod : C := .seq (.ops [⟨0, (some 6), none, .mov (.c (.slice none 0 0)), []⟩, ⟨1, (some 7), none, .mov (.c (.slice none 0 0)), []⟩, ⟨2, (some 8), none, .mov (.c (.int .i64 0)), []⟩]) (.seq (.seq (.ops [⟨0, (some 10), none, .mov (.t 0), []⟩, ⟨1, (some 11), none, .mov (.t 1), []⟩, ⟨2, (some 12), none, .mov (.t 2), []⟩, ⟨3, (some 13), none, .bsl 25 2 [.slice none 0 0] [(0, (1, .t 11)), (1, (1, .t 12))], []⟩, ⟨4, (some 14), none, .call (.c (.func (.func 87) #[] #[])) [.t 10, .t 13], []⟩, ⟨5, (some 9), none, .mov (.t 14), []⟩]) (.seq (.ops [⟨0, (some 15), none, .mov (.t 9), []⟩, ⟨1, (some 16), none, .bin .neq (.t 15) (.c (.int .i64 0)), []⟩]) (.ite (.t 16) (.seq (.ops [⟨0, (some 17), none, .mov (.t 9), []⟩, ⟨1, (some 6), none, .mov (.c (.slice none 0 0)), []⟩, ⟨2, (some 7), none, .mov (.c (.slice none 0 0)), []⟩, ⟨3, (some 8), none, .mov (.t 17), []⟩]) .ret) .skip))) (.seq (.seq (.ops [⟨0, (some 18), none, .mov (.t 2), []⟩, ⟨1, (some 19), none, .call (.c (.func (.func 130) #[] #[])) [.t 18], []⟩, ⟨2, (some 20), none, .bin .lss (.t 19) (.c (.int .i64 0)), []⟩]) (.ite (.t 20) (.seq (.ops [⟨0, (some 6), none, .mov (.c (.slice none 0 0)), []⟩, ⟨1, (some 7), none, .mov (.c (.slice none 0 0)), []⟩, ⟨2, (some 8), none, .mov (.c (.int .i64 40)), []⟩]) .ret) .skip)) (.seq (.ops [⟨0, (some 22), none, .mov (.t 0), []⟩, ⟨1, (some 23), none, .mov (.t 1), []⟩, ⟨2, (some 24), none, .mov (.t 2), []⟩, ⟨3, (some 25), none, .call (.c (.func (.func 127) #[] #[])) [.t 22, .t 23, .t 24], []⟩, ⟨4, (some 21), none, .mov (.t 25), []⟩, ⟨5, (some 26), none, .ext (.t 21) 0, []⟩, ⟨6, (some 27), none, .ext (.t 21) 1, []⟩, ⟨7, (some 6), none, .mov (.t 26), []⟩, ⟨8, (some 7), none, .mov (.t 27), []⟩]) (.seq (.ops [⟨0, (some 28), none, .mov (.t 6), []⟩, ⟨1, (some 29), none, .mov (.t 7), []⟩, ⟨2, (some 6), none, .mov (.t 28), []⟩, ⟨3, (some 7), none, .mov (.t 29), []⟩, ⟨4, (some 8), none, .mov (.c (.int .i64 0)), []⟩]) .ret))))
attribute [irreducible] c_polys_Ring_b_DivMod
theorem run_polys_Ring_b_DivMod {args : List Value} {w : World} {K : Value → World → Prop} (hn : args.length ≤ 30) (h : WP Try.prog c_polys_Ring_b_DivMod (endQ [.t 6, .t 7, .t 8] K) (initT args) w) : CallV Try.prog 91 args w K :=
  call_of follows Try.func91 (by kernel_rfl) (by kernel_rfl) hn h
def c_polys_Ring_b_divided : C := .seq (.ops [⟨0, (some 6), none, .mov (.c (.slice none 0 0)), []⟩, ⟨1, (some 7), none, .mov (.c (.slice none 0 0)), []⟩]) (.seq (.ops [⟨0, (some 14), none, .mov (.t 1), []⟩, ⟨1, (some 15), none, .call (.c (.func (.func 125) #[] #[])) [.t 14], []⟩, ⟨2, (some 7), none, .mov (.t 15), []⟩]) (.seq (.ops [⟨0, (some 16), none, .mov (.t 2), []⟩, ⟨1, (some 17), none, .call (.c (.func (.func 130) #[] #[])) [.t 16], []⟩, ⟨2, (some 8), none, .mov (.t 17), []⟩]) (.seq (.dops [⟨0, (some 19), none, .mov (.t 0), []⟩, ⟨1, (some 20), none, .nil (.t 19), []⟩, ⟨2, (some 21), none, .fad 1 (.t 20), []⟩, ⟨3, (some 22), none, .ld (.t 21), []⟩, ⟨4, (some 23), none, .mov (.t 2), []⟩, ⟨5, (some 24), none, .mov (.t 8), []⟩, ⟨6, (some 25), none, .ixs 1 (.t 23) (.t 24), []⟩, ⟨7, (some 26), none, .ld (.t 25), []⟩, ⟨8, (some 27), none, .call (.t 22) [.t 26], []⟩, ⟨9, (some 18), none, .mov (.t 27), []⟩, ⟨10, (some 28), none, .ext (.t 18) 0, []⟩, ⟨11, (some 29), none, .ext (.t 18) 1, []⟩, ⟨12, (some 9), none, .mov (.t 28), []⟩, ⟨13, (some 10), none, .mov (.t 29), []⟩]) (.seq (.seq (.ops [⟨0, (some 30), none, .mov (.t 7), []⟩, ⟨1, (some 31), none, .len (.t 30), []⟩, ⟨2, (some 32), none, .mov (.t 8), []⟩, ⟨3, (some 33), none, .bin .gtr (.t 31) (.t 32), []⟩]) (.ite (.t 33) (.ops [⟨0, (some 34), none, .mov (.t 7), []⟩, ⟨1, (some 35), none, .len (.t 34), []⟩, ⟨2, (some 36), none, .mov (.t 8), []⟩, ⟨3, (some 37), none, .bin .sub (.t 35) (.t 36), []⟩, ⟨4, (some 38), none, .mks 5 1 [.int .u8 0] (.t 37) (.t 37), []⟩, ⟨5, (some 6), none, .mov (.t 38), []⟩]) .skip)) (.seq (.seq (.ops [⟨0, (some 39), none, .mov (.t 7), []⟩, ⟨1, (some 40), none, .len (.t 39), []⟩, ⟨2, (some 41), none, .bin .sub (.t 40) (.c (.int .i64 1)), []⟩, ⟨3, (some 42), none, .mov (.t 8), []⟩, ⟨4, (some 43), none, .bin .sub (.t 41) (.t 42), []⟩, ⟨5, (some 11), none, .mov (.t 43), []⟩]) (.block 0 (.loop (.seq (.seq (.ops [⟨0, (some 44), none, .mov (.t 11), []⟩, ⟨1, (some 45), none, .bin .geq (.t 44) (.c (.int .i64 0)), []⟩]) (.ite (.t 45) .skip (.exit 0))) (.seq (.block 1 (.seq (.dops [⟨0, (some 48), none, .mov (.t 0), []⟩, ⟨1, (some 49), none, .nil (.t 48), []⟩, ⟨2, (some 50), none, .fad 0 (.t 49), []⟩, ⟨3, (some 51), none, .ld (.t 50), []⟩, ⟨4, (some 52), none, .mov (.t 7), []⟩, ⟨5, (some 53), none, .mov (.t 11), []⟩, ⟨6, (some 54), none, .mov (.t 8), []⟩, ⟨7, (some 55), none, .bin .add (.t 53) (.t 54), []⟩, ⟨8, (some 56), none, .ixs 1 (.t 52) (.t 55), []⟩, ⟨9, (some 57), none, .ld (.t 56), []⟩, ⟨10, (some 58), none, .mov (.t 9), []⟩, ⟨11, (some 59), none, .call (.t 51) [.t 57, .t 58], []⟩, ⟨12, (some 12), none, .mov (.t 59), []⟩]) (.seq (.ops [⟨0, (some 60), none, .mov (.t 6), []⟩, ⟨1, (some 61), none, .mov (.t 11), []⟩, ⟨2, (some 62), none, .mov (.t 12), []⟩, ⟨3, (some 63), none, .ixs 1 (.t 60) (.t 61), []⟩, ⟨4, none, none, .st (.t 63) (.t 62), []⟩]) (.seq (.seq (.ops [⟨0, (some 64), none, .mov (.t 12), []⟩, ⟨1, (some 65), none, .bin .eql (.t 64) (.c (.int .u8 0)), []⟩]) (.ite (.t 65) (.exit 1) .skip)) (.seq (.ops [⟨0, (some 66), none, .mov (.t 8), []⟩, ⟨1, (some 67), none, .bin .add (.t 66) (.c (.int .i64 1)), []⟩, ⟨2, (some 68), none, .mov (.c (.int .i64 0)), []⟩]) (.block 2 (.loop (.seq (.ops [⟨0, (some 69), none, .bin .lss (.t 68) (.t 67), []⟩]) (.seq (.ite (.t 69) .skip (.exit 2)) (.seq (.block 3 (.seq (.ops [⟨0, (some 70), none, .mov (.t 68), []⟩, ⟨1, (some 13), none, .mov (.t 70), []⟩]) (.dops [⟨0, (some 71), none, .mov (.t 7), []⟩, ⟨1, (some 72), none, .mov (.t 11), []⟩, ⟨2, (some 73), none, .mov (.t 13), []⟩, ⟨3, (some 74), none, .bin .add (.t 72) (.t 73), []⟩, ⟨4, (some 75), none, .ixs 1 (.t 71) (.t 74), []⟩, ⟨5, (some 76), none, .ld (.t 75), []⟩, ⟨6, (some 77), none, .mov (.t 0), []⟩, ⟨7, (some 78), none, .nil (.t 77), []⟩, ⟨8, (some 79), none, .fad 0 (.t 78), []⟩, ⟨9, (some 80), none, .ld (.t 79), []⟩, ⟨10, (some 81), none, .mov (.t 12), []⟩, ⟨11, (some 82), none, .mov (.t 2), []⟩, ⟨12, (some 83), none, .mov (.t 13), []⟩, ⟨13, (some 84), none, .ixs 1 (.t 82) (.t 83), []⟩, ⟨14, (some 85), none, .ld (.t 84), []⟩, ⟨15, (some 86), none, .call (.t 80) [.t 81, .t 85], [5]⟩, ⟨16, (some 87), none, .bin .xor (.t 76) (.t 86), []⟩, ⟨17, (some 88), none, .ixs 1 (.t 71) (.t 74), []⟩, ⟨18, none, none, .st (.t 88) (.t 87), []⟩]))) (.ops [⟨0, (some 89), none, .bin .add (.t 68) (.c (.int .i64 1)), []⟩, ⟨1, (some 68), none, .mov (.t 89), []⟩]))))))))))) (.ops [⟨0, (some 46), none, .mov (.t 11), []⟩, ⟨1, (some 47), none, .bin .sub (.t 46) (.c (.int .i64 1)), []⟩, ⟨2, (some 11), none, .mov (.t 47), []⟩])))))) (.seq (.ops [⟨0, (some 90), none, .mov (.t 6), []⟩, ⟨1, (some 91), none, .mov (.t 7), []⟩, ⟨2, (some 92), none, .call (.c (.func (.func 125) #[] #[])) [.t 91], []⟩, ⟨3, (some 6), none, .mov (.t 90), []⟩, ⟨4, (some 7), none, .mov (.t 92), []⟩]) .ret))))))
attribute [irreducible] c_polys_Ring_b_divided
theorem run_polys_Ring_b_divided {args : List Value} {w : World} {K : Value → World → Prop} (hn : args.length ≤ 93) (h : WP Try.prog c_polys_Ring_b_divided (endQ [.t 6, .t 7] K) (initT args) w) : CallV Try.prog 127 args w K :=
  call_of follows Try.func127 (by kernel_rfl) (by kernel_rfl) hn h
end Go.Proofs.Ytbaljbadlfopgaa.Fw
namespace Go.Proofs.Ytbaljbadlfopgaa.Fw
open Go Go.Fw
theorem co_set_mono8 (l : List (El 8)) {i : Nat} (h : i < l.length) (x : El 8) (h0 : l[i] = 0) : co (l.set i x) = co l + Ps.mono i x := Ps.ext fun k => by
  rw [co_set l h, Ps.add_c]
  show _ = _ + (if k = i then x else 0)
  by_cases hk : k = i
  · subst hk; rw [if_pos rfl, if_pos rfl, co_get l h, h0, El.zero_add]
  · rw [if_neg hk, if_neg hk, El.add_zero]
theorem polys_Ring_b_divided_spec (w : World) (r s1 s2 : Value) (l1 l2 : List (El 8)) (hr : Ring_b w r) (h1 : Sl w s1 l1) (h2 : Sl w s2 l2) (hb1 : l1.length ≤ 70368744175616) (hb2 : l2.length ≤ 70368744175616) (hg0 : tln l2 ≠ 0) :
    CallV Try.prog 127 [r, s1, s2] w fun v w' => ∃ sq sm q m, v = .tuple #[sq, sm] ∧ Ow w.heap.size w' sq q ∧ Ow w.heap.size w' sm m ∧ tr q = q ∧ tr m = m ∧ co l1 = co q * co l2 + co m ∧ m.length < tln l2 ∧ q.length = tln l1 - (tln l2 - 1) ∧ RowKit.Below w.heap.size w w' := by
  have hle1 := tln_le l1
  have hle2 := tln_le l2
  have h2w := h2
  obtain ⟨d, hd⟩ : ∃ d, tln l2 = d + 1 := ⟨tln l2 - 1, by omega⟩
  have hdl : d < l2.length := by omega
  have htop : l2[d] ≠ 0 := by rw [← co_get l2 hdl]; exact tln_top l2 d hd
  refine run_polys_Ring_b_divided (by simp) ?_
  simp only [c_polys_Ring_b_divided, WS, List.getElem_cons_zero, List.getElem_cons_succ, Option.isNone_some, Option.isNone_none, List.getD_cons_zero, List.getD_cons_succ, I.at, atL, atO, atP, evp, evs, retV, ↓reduceIte, Nat.reduceEqDiff, reduceCtorEq]
  refine X_call0 ((polys_copied_b_spec w s1 l1 h1 hb1).mono ?_)
  rintro sm w1 ⟨om, hB1⟩
  have h2 := h2.up hB1
  have hr1 := hr.up hB1
  simp only [WS, List.getElem_cons_zero, List.getElem_cons_succ, Option.isNone_some, Option.isNone_none, List.getD_cons_zero, List.getD_cons_succ, I.at, atL, atO, atP, evp, evs, retV, ↓reduceIte, Nat.reduceEqDiff, reduceCtorEq]
  refine X_call0 ((polys_degree_b_spec w1 s2 l2 h2 hb2).mono ?_)
  rintro v w' ⟨rfl, rfl⟩
  have ed : ((tln l2 : Int) - 1) = (d : Int) := by omega
  rw [ed]
  obtain ⟨b, mv, iv, rfl, hrow, hm, hi⟩ := id hr1
  simp only [WS, List.getElem_cons_zero, List.getElem_cons_succ, Option.isNone_some, Option.isNone_none, List.getD_cons_zero, List.getD_cons_succ, I.at, atL, atO, atP, evp, evs, retV, ↓reduceIte, Nat.reduceEqDiff, reduceCtorEq]
  refine WP_dops ?_
  have h2d := h2.drew
  simp only [ES, List.mem_cons, List.not_mem_nil, implies_true, forall_const, WS, List.getElem_cons_zero, List.getElem_cons_succ, Option.isNone_some, Option.isNone_none, List.getD_cons_zero, List.getD_cons_succ, I.at, atL, atO, atP, evp, evs, retV, ↓reduceIte, Nat.reduceEqDiff, reduceCtorEq, addr_add0, Nat.zero_add, hrow.drew.Eld (show 1 < [mv, iv].length by simp), h2d.Eix hdl, h2d.Eld hdl, cell_e8]
  refine E_callK (Inv_b.call (w := w'.drew) hi _ htop fun w2 hl => ?_)
  have hL : Like w' w2 := (Like.drew w').trans hl
  have om := hL.ow om
  have B2 : RowKit.Below w.heap.size w w2 := hL.bel hB1 hB1.size
  have hr2 : Ring_b w2 (.pointer (some ⟨b, 0, none⟩)) := hr1.up hL.1
  have h2 := hL.sl h2
  have hml : (tr l1).length = tln l1 := tr_len l1
  simp only [ES, List.mem_cons, List.not_mem_nil, implies_true, forall_const, WS, List.getElem_cons_zero, List.getElem_cons_succ, Option.isNone_some, Option.isNone_none, List.getD_cons_zero, List.getD_cons_succ, I.at, atL, atO, atP, evp, evs, retV, ↓reduceIte, Nat.reduceEqDiff, reduceCtorEq, om.sl.Xlen, hml]
  generalize hc : (l2[d]).inv = c
  have hgc : l2[d] * c = 1 := by rw [← hc]; exact El.mul_inv _ htop
  clear hrow hm hi h2d hL hl hr1 hB1
  have fin : ∀ (q m : List (El 8)) (sq : Value) (w5 : World), q.length = tln l1 - d → m.length = tln l1 → co l1 = co q * co l2 + co m → Dg (co m) d → Ow w.heap.size w5 sq q → Ow w.heap.size w5 sm m → RowKit.Below w.heap.size w w5 →
      CallV Try.prog 125 [sm] w5 fun v w' => ∃ sq' sm' q m, Value.tuple #[sq, v] = .tuple #[sq', sm'] ∧ Ow w.heap.size w' sq' q ∧ Ow w.heap.size w' sm' m ∧ tr q = q ∧ tr m = m ∧ co l1 = co q * co l2 + co m ∧ m.length < tln l2 ∧ q.length = tln l1 - (tln l2 - 1) ∧ RowKit.Below w.heap.size w w' := by
    intro q m sq w5 hq hm he hdm oq om hB
    refine (polys_copied_b_spec w5 sm m om.sl (by omega)).mono ?_
    rintro v w6 ⟨o6, hB6⟩
    have htm : tln m ≤ d := by
      refine Nat.le_of_not_lt fun h => ?_
      exact tln_top m (tln m - 1) (by omega) (hdm _ (by omega))
    have htq : tr q = q := by
      by_cases h0 : tln l1 ≤ d
      · have : q = [] := List.eq_nil_of_length_eq_zero (by omega)
        rw [this]; rfl
      · have : tln q = q.length := by
          refine Nat.le_antisymm (tln_le q) (Nat.le_of_not_lt fun h => ?_)
          have g1 : Dg (co q * co l2) (tln l1 - 1) := ((tln_dg q).mul (tln_dg l2)).mono (by omega)
          have g2 : Dg (co l1) (tln l1 - 1) := by rw [he]; exact g1.add (hdm.mono (by omega))
          exact tln_top l1 (tln l1 - 1) (by omega) (g2 _ (Nat.le_refl _))
        unfold tr; rw [this, List.take_length]
    refine ⟨sq, v, q, tr m, rfl, oq.up hB6, o6.mono hB.size, htq, tr_tr m, by rw [tr_co]; exact he, by rw [tr_len]; omega, by omega, hB.trans (hB6.mono hB.size)⟩
  by_cases had : tln l1 ≤ d
  · have e3 : IntKind.i64.wrap ((tln l1 : Int) - 1) = (tln l1 : Int) - 1 := wrap_id (by omega) (by omega)
    have e4 : IntKind.i64.wrap ((tln l1 : Int) - 1 - (d : Int)) = (tln l1 : Int) - 1 - (d : Int) := wrap_id (by omega) (by omega)
    simp only [WS, List.getElem_cons_zero, List.getElem_cons_succ, Option.isNone_some, Option.isNone_none, List.getD_cons_zero, List.getD_cons_succ, I.at, atL, atO, atP, evp, evs, retV, ↓reduceIte, Nat.reduceEqDiff, reduceCtorEq, show decide ((d : Int) < (tln l1 : Int)) = false from decide_eq_false (by omega), om.sl.Xlen, hml, e3, e4]
    refine loop_of (fun t w' => w' = w2 ∧ t 6 = .slice none 0 0 ∧ t 7 = sm ∧ t 11 = .int .i64 ((tln l1 : Int) - 1 - (d : Int))) (fun _ _ => 0) ⟨rfl, rfl, rfl, rfl⟩ ?_
    rintro t w' ⟨rfl, t6, t7, t11⟩
    simp only [WS, List.getElem_cons_zero, List.getElem_cons_succ, Option.isNone_some, Option.isNone_none, List.getD_cons_zero, List.getD_cons_succ, I.at, atL, atO, atP, evp, evs, retV, ↓reduceIte, Nat.reduceEqDiff, reduceCtorEq, t6, t7, t11, show decide ((0 : Int) ≤ (tln l1 : Int) - 1 - (d : Int)) = false from decide_eq_false (by omega)]
    refine X_call0 ((fin [] (tr l1) _ w' (by simp; omega) hml (by rw [co_nil, Ps.zero_mul, Ps.zero_add, tr_co]) (by rw [tr_co]; exact (tln_dg l1).mono had) (Ow.nil _ _) om B2).mono ?_)
    intro v w' h
    simp only [WS, List.getElem_cons_zero, List.getElem_cons_succ, Option.isNone_some, Option.isNone_none, List.getD_cons_zero, List.getD_cons_succ, I.at, atL, atO, atP, evp, evs, retV, ↓reduceIte, Nat.reduceEqDiff, reduceCtorEq]
    exact h
  · have e3 : IntKind.i64.wrap ((tln l1 : Int) - (d : Int)) = ((tln l1 - d : Nat) : Int) := by rw [wrap_id (by omega) (by omega)]; omega
    have e4 : IntKind.i64.wrap ((tln l1 : Int) - 1) = (tln l1 : Int) - 1 := wrap_id (by omega) (by omega)
    have e5 : IntKind.i64.wrap ((tln l1 : Int) - 1 - (d : Int)) = ((tln l1 - d : Nat) : Int) - 1 := by rw [wrap_id (by omega) (by omega)]; omega
    simp only [WS, List.getElem_cons_zero, List.getElem_cons_succ, Option.isNone_some, Option.isNone_none, List.getD_cons_zero, List.getD_cons_succ, I.at, atL, atO, atP, evp, evs, retV, ↓reduceIte, Nat.reduceEqDiff, reduceCtorEq, show decide ((d : Int) < (tln l1 : Int)) = true from decide_eq_true (by omega), om.sl.Xlen, hml, e3]
    refine X_mks (x := (0 : El 8)) ?_ ?_ fun sq w3 oq hB => ?_
    · simp only [maxBytes]; omega
    · omega
    have omb := om.blk
    have om := om.up hB
    have B3 : RowKit.Below w.heap.size w w3 := B2.trans (hB.mono B2.size)
    have hne : Fw.blk sm ≠ Fw.blk sq := by
      intro e
      have hb2 : ∀ k, Fw.blk sq = some k → w2.heap.size ≤ k := fun k hk => (oq.blk k hk).1
      obtain ⟨k, hk, -⟩ := oq.sl.blk_lt (by intro e; have := congrArg List.length e; simp at this; omega)
      have h5 := hb2 k hk
      rw [hk] at e
      have h6 : k < w2.heap.size := (omb k e).2
      omega
    have oq := oq.mono B2.size
    have sqb : ∀ k, Fw.blk sq = some k → w.heap.size ≤ k := fun k hk => (oq.blk k hk).1
    have smb : ∀ k, Fw.blk sm = some k → w.heap.size ≤ k := fun k hk => (omb k hk).1
    simp only [WS, List.getElem_cons_zero, List.getElem_cons_succ, Option.isNone_some, Option.isNone_none, List.getD_cons_zero, List.getD_cons_succ, I.at, atL, atO, atP, evp, evs, retV, ↓reduceIte, Nat.reduceEqDiff, reduceCtorEq, om.sl.Xlen, hml, e4, e5]
    refine loop_of (fun t w' => t 0 = .pointer (some ⟨b, 0, none⟩) ∧ t 2 = s2 ∧ t 6 = sq ∧ t 7 = sm ∧ t 8 = .int .i64 (d : Int) ∧ t 9 = .int .u8 (c.v.toNat : Int) ∧ RowKit.Below w.heap.size w w' ∧ ∃ (k : Nat) (q m : List (El 8)), t 11 = .int .i64 ((k : Int) - 1) ∧ k ≤ tln l1 - d ∧
        Ow w.heap.size w' sq q ∧ Ow w.heap.size w' sm m ∧ q.length = tln l1 - d ∧ m.length = tln l1 ∧ co l1 = co q * co l2 + co m ∧ Dg (co m) (k + d) ∧ ∀ i, i < k → (co q).c i = 0)
      (fun t _ => (toI (t 11) + 1).toNat) ⟨by simp only [WS, List.getElem_cons_zero, List.getElem_cons_succ, Option.isNone_some, Option.isNone_none, List.getD_cons_zero, List.getD_cons_succ, I.at, atL, atO, atP, evp, evs, retV, ↓reduceIte, Nat.reduceEqDiff, reduceCtorEq], by simp only [WS, List.getElem_cons_zero, List.getElem_cons_succ, Option.isNone_some, Option.isNone_none, List.getD_cons_zero, List.getD_cons_succ, I.at, atL, atO, atP, evp, evs, retV, ↓reduceIte, Nat.reduceEqDiff, reduceCtorEq], rfl, by simp only [WS, List.getElem_cons_zero, List.getElem_cons_succ, Option.isNone_some, Option.isNone_none, List.getD_cons_zero, List.getD_cons_succ, I.at, atL, atO, atP, evp, evs, retV, ↓reduceIte, Nat.reduceEqDiff, reduceCtorEq], by simp only [WS, List.getElem_cons_zero, List.getElem_cons_succ, Option.isNone_some, Option.isNone_none, List.getD_cons_zero, List.getD_cons_succ, I.at, atL, atO, atP, evp, evs, retV, ↓reduceIte, Nat.reduceEqDiff, reduceCtorEq], by simp only [WS, List.getElem_cons_zero, List.getElem_cons_succ, Option.isNone_some, Option.isNone_none, List.getD_cons_zero, List.getD_cons_succ, I.at, atL, atO, atP, evp, evs, retV, ↓reduceIte, Nat.reduceEqDiff, reduceCtorEq], B3, tln l1 - d, _, tr l1, rfl, Nat.le_refl _, oq, om, by simp, hml, by rw [co_replicate, Ps.zero_mul, Ps.zero_add, tr_co], by rw [tr_co]; exact (tln_dg l1).mono (by omega), fun i _ => by rw [co_replicate]; rfl⟩ ?_
    clear om oq B3 hB
    rintro t w4 ⟨t0, t2, t6, t7, t8, t9, hB, k, q, m, t11, hk, oq, om, hql, hml, hco, hdm, hqz⟩
    rcases Nat.eq_zero_or_pos k with rfl | hp
    · rw [Nat.zero_add] at hdm
      simp only [WS, List.getElem_cons_zero, List.getElem_cons_succ, Option.isNone_some, Option.isNone_none, List.getD_cons_zero, List.getD_cons_succ, I.at, atL, atO, atP, evp, evs, retV, ↓reduceIte, Nat.reduceEqDiff, reduceCtorEq, t0, t2, t6, t7, t8, t9, t11, show decide ((0 : Int) ≤ ((0 : Nat) : Int) - 1) = false from rfl]
      refine X_call0 ((fin q m sq w4 hql hml hco hdm oq om hB).mono ?_)
      intro v w' h
      simp only [WS, List.getElem_cons_zero, List.getElem_cons_succ, Option.isNone_some, Option.isNone_none, List.getD_cons_zero, List.getD_cons_succ, I.at, atL, atO, atP, evp, evs, retV, ↓reduceIte, Nat.reduceEqDiff, reduceCtorEq]
      exact h
    · obtain ⟨k, rfl⟩ : ∃ j, k = j + 1 := ⟨k - 1, by omega⟩
      have e1 : ((k + 1 : Nat) : Int) - 1 = (k : Int) := by omega
      rw [e1] at t11
      have hkd : k + d < m.length := by omega
      have hkq : k < q.length := by omega
      obtain ⟨b', mv', iv', hbe, hrow', hm', -⟩ := hr.up hB
      cases hbe
      have wkd : IntKind.i64.wrap ((k : Int) + (d : Int)) = ((k + d : Nat) : Int) := by rw [wrap_id (by omega) (by omega)]; omega
      have wk1 : IntKind.i64.wrap ((k : Int) - 1) = (k : Int) - 1 := wrap_id (by omega) (by omega)
      have hos := om.sl.drew
      simp only [WS, List.getElem_cons_zero, List.getElem_cons_succ, Option.isNone_some, Option.isNone_none, List.getD_cons_zero, List.getD_cons_succ, I.at, atL, atO, atP, evp, evs, retV, ↓reduceIte, Nat.reduceEqDiff, reduceCtorEq, t0, t2, t6, t7, t8, t9, t11, show decide ((0 : Int) ≤ (k : Int)) = true by simp]
      refine WP_dops ?_
      simp only [ES, List.mem_cons, List.not_mem_nil, implies_true, forall_const, WS, List.getElem_cons_zero, List.getElem_cons_succ, Option.isNone_some, Option.isNone_none, List.getD_cons_zero, List.getD_cons_succ, I.at, atL, atO, atP, evp, evs, retV, ↓reduceIte, Nat.reduceEqDiff, reduceCtorEq, t0, t2, t6, t7, t8, t9, t11, wkd, addr_add0, Nat.zero_add, hrow'.drew.Eld (show 0 < [mv', iv'].length by simp), hos.Eix hkd, hos.Eld hkd, cell_e8]
      refine E_callK (Mul_b.call (w := w4.drew) hm' _ _ fun w5 hl => ?_)
      have hL : Like w4 w5 := (Like.drew w4).trans hl
      have om := hL.ow om
      have oq := hL.ow oq
      have hB := hL.bel hB hB.size
      generalize hx : m[k + d] * c = x
      simp only [ES, List.mem_cons, List.not_mem_nil, implies_true, forall_const, WS, List.getElem_cons_zero, List.getElem_cons_succ, Option.isNone_some, Option.isNone_none, List.getD_cons_zero, List.getD_cons_succ, I.at, atL, atO, atP, evp, evs, retV, ↓reduceIte, Nat.reduceEqDiff, reduceCtorEq, t0, t2, t6, t7, t8, t9, t11, oq.sl.Xix hkq]
      refine Ow.Xst oq hkq x fun w6 oq hg => ?_
      have om := om.grown hg hne
      have hB := hB.grown hg hB.size sqb
      clear hg hrow' hm' hos hl hL
      simp only [WS, List.getElem_cons_zero, List.getElem_cons_succ, Option.isNone_some, Option.isNone_none, List.getD_cons_zero, List.getD_cons_succ, I.at, atL, atO, atP, evp, evs, retV, ↓reduceIte, Nat.reduceEqDiff, reduceCtorEq, t0, t2, t6, t7, t8, t9, t11]
      have hqk : q[k] = 0 := by rw [← co_get q hkq]; exact hqz k (by omega)
      have hsm := co_set_mono8 q hkq x hqk
      have hql' : (q.set k x).length = tln l1 - d := by simp [hql]
      have hqz' : ∀ i, i < k → (co (q.set k x)).c i = 0 := fun i hi => by rw [co_set _ hkq, if_neg (by omega)]; exact hqz i (by omega)
      by_cases hx0 : x = 0
      · have d1 : decide ((x.v.toNat : Int) = 0) = true := decide_eq_true ((el_zero _).mpr hx0)
        have hmz : m[k + d] = 0 := by
          rw [hx0] at hx
          rcases El.mul_eq_zero.1 hx with h | h
          · exact h
          · exact absurd hgc (by rw [h, El.mul_zero]; exact fun e => El.one_ne e.symm)
        simp only [WS, List.getElem_cons_zero, List.getElem_cons_succ, Option.isNone_some, Option.isNone_none, List.getD_cons_zero, List.getD_cons_succ, I.at, atL, atO, atP, evp, evs, retV, ↓reduceIte, Nat.reduceEqDiff, reduceCtorEq, t0, t2, t6, t7, t8, t9, t11, d1, wk1, toI_int]
        refine ⟨⟨hB, k, q.set k x, m, rfl, by omega, oq, om, hql', hml, ?_, fun i hi => ?_, hqz'⟩, by omega⟩
        · rw [hsm, hx0, mono_zero, Ps.add_zero]; exact hco
        · by_cases hi2 : i = k + d
          · subst hi2; rw [co_get m hkd]; exact hmz
          · exact hdm i (by omega)
      · have d1 : decide ((x.v.toNat : Int) = 0) = false := decide_eq_false (fun e => hx0 ((el_zero _).mp e))
        have wd1 : IntKind.i64.wrap ((d : Int) + 1) = ((d + 1 : Nat) : Int) := by rw [wrap_id (by omega) (by omega)]; omega
        simp only [WS, List.getElem_cons_zero, List.getElem_cons_succ, Option.isNone_some, Option.isNone_none, List.getD_cons_zero, List.getD_cons_succ, I.at, atL, atO, atP, evp, evs, retV, ↓reduceIte, Nat.reduceEqDiff, reduceCtorEq, t0, t2, t6, t7, t8, t9, t11, d1, wd1]
        refine loop_of (fun t w' => t 0 = .pointer (some ⟨b, 0, none⟩) ∧ t 2 = s2 ∧ t 6 = sq ∧ t 7 = sm ∧ t 8 = .int .i64 (d : Int) ∧ t 9 = .int .u8 (c.v.toNat : Int) ∧ t 11 = .int .i64 (k : Int) ∧ t 12 = .int .u8 (x.v.toNat : Int) ∧ t 67 = .int .i64 ((d + 1 : Nat) : Int) ∧ RowKit.Below w.heap.size w w' ∧
            Ow w.heap.size w' sq (q.set k x) ∧ ∃ (j : Nat) (ms : List (El 8)), t 68 = .int .i64 (j : Int) ∧ j ≤ d + 1 ∧ Ow w.heap.size w' sm ms ∧ ms.length = tln l1 ∧ ∀ i, (co ms).c i = (co m).c i + (if k ≤ i ∧ i < k + j then x * (co l2).c (i - k) else 0))
          (fun t _ => d + 1 - (toI (t 68)).toNat) ⟨by simp only [WS, List.getElem_cons_zero, List.getElem_cons_succ, Option.isNone_some, Option.isNone_none, List.getD_cons_zero, List.getD_cons_succ, I.at, atL, atO, atP, evp, evs, retV, ↓reduceIte, Nat.reduceEqDiff, reduceCtorEq, t0], by simp only [WS, List.getElem_cons_zero, List.getElem_cons_succ, Option.isNone_some, Option.isNone_none, List.getD_cons_zero, List.getD_cons_succ, I.at, atL, atO, atP, evp, evs, retV, ↓reduceIte, Nat.reduceEqDiff, reduceCtorEq, t2], by simp only [WS, List.getElem_cons_zero, List.getElem_cons_succ, Option.isNone_some, Option.isNone_none, List.getD_cons_zero, List.getD_cons_succ, I.at, atL, atO, atP, evp, evs, retV, ↓reduceIte, Nat.reduceEqDiff, reduceCtorEq, t6], by simp only [WS, List.getElem_cons_zero, List.getElem_cons_succ, Option.isNone_some, Option.isNone_none, List.getD_cons_zero, List.getD_cons_succ, I.at, atL, atO, atP, evp, evs, retV, ↓reduceIte, Nat.reduceEqDiff, reduceCtorEq, t7], by simp only [WS, List.getElem_cons_zero, List.getElem_cons_succ, Option.isNone_some, Option.isNone_none, List.getD_cons_zero, List.getD_cons_succ, I.at, atL, atO, atP, evp, evs, retV, ↓reduceIte, Nat.reduceEqDiff, reduceCtorEq, t8], by simp only [WS, List.getElem_cons_zero, List.getElem_cons_succ, Option.isNone_some, Option.isNone_none, List.getD_cons_zero, List.getD_cons_succ, I.at, atL, atO, atP, evp, evs, retV, ↓reduceIte, Nat.reduceEqDiff, reduceCtorEq, t9], by simp only [WS, List.getElem_cons_zero, List.getElem_cons_succ, Option.isNone_some, Option.isNone_none, List.getD_cons_zero, List.getD_cons_succ, I.at, atL, atO, atP, evp, evs, retV, ↓reduceIte, Nat.reduceEqDiff, reduceCtorEq, t11], rfl, rfl, hB, oq, 0, m, rfl, by omega, om, hml, fun i => by rw [if_neg (by omega), El.add_zero]⟩ ?_
        clear t0 t2 t6 t7 t8 t9 t11 om oq hB
        rintro t w7 ⟨t0, t2, t6, t7, t8, t9, t11, t12, t67, hB, oq, j, ms, t68, hj, om, hmsl, hmc⟩
        by_cases hjl : j < d + 1
        · obtain ⟨b', mv', iv', hbe, hrow', hm', -⟩ := hr.up hB
          cases hbe
          have hj2 : j < l2.length := by omega
          have hkj : k + j < ms.length := by omega
          have wkj : IntKind.i64.wrap ((k : Int) + (j : Int)) = ((k + j : Nat) : Int) := by rw [wrap_id (by omega) (by omega)]; omega
          have wj : IntKind.i64.wrap ((j : Int) + 1) = ((j + 1 : Nat) : Int) := by rw [wrap_id (by omega) (by omega)]; omega
          have hos := om.sl.drew
          have hg := (h2w.up hB).drew
          simp only [WS, List.getElem_cons_zero, List.getElem_cons_succ, Option.isNone_some, Option.isNone_none, List.getD_cons_zero, List.getD_cons_succ, I.at, atL, atO, atP, evp, evs, retV, ↓reduceIte, Nat.reduceEqDiff, reduceCtorEq, t0, t2, t6, t7, t8, t9, t11, t12, t67, t68, show decide ((j : Int) < ((d + 1 : Nat) : Int)) = true from decide_eq_true (by omega)]
          refine WP_dops ?_
          simp only [ES, List.mem_cons, List.not_mem_nil, implies_true, forall_const, WS, List.getElem_cons_zero, List.getElem_cons_succ, Option.isNone_some, Option.isNone_none, List.getD_cons_zero, List.getD_cons_succ, I.at, atL, atO, atP, evp, evs, retV, ↓reduceIte, Nat.reduceEqDiff, reduceCtorEq, t0, t2, t6, t7, t8, t9, t11, t12, t67, t68, wkj, addr_add0, Nat.zero_add, Nat.add_zero, hrow'.drew.Eld (show 0 < [mv', iv'].length by simp), hos.Eix hkj, hos.Eld hkj, hg.Eix hj2, hg.Eld hj2, cell_e8]
          refine E_callK (Mul_b.call (w := w7.drew) hm' _ _ fun w8 hl => ?_)
          have hos8 := hl.sl hos
          have hsee := hos8.sees hkj Try.prog
          rw [cell_e8] at hsee
          have hL : Like w7 w8 := (Like.drew w7).trans hl
          simp only [ES, List.mem_cons, List.not_mem_nil, implies_true, forall_const, WS, List.getElem_cons_zero, List.getElem_cons_succ, Option.isNone_some, Option.isNone_none, List.getD_cons_zero, List.getD_cons_succ, I.at, atL, atO, atP, evp, evs, retV, ↓reduceIte, Nat.reduceEqDiff, reduceCtorEq, hsee, xor8, hos8.Eix hkj]
          refine Ow.Est (hL.ow om) hkj (ms[k + j] + x * l2[j]) fun w9 om9 hg9 => ?_
          have oq9 := (hL.ow oq).grown hg9 (fun e => hne e.symm)
          have hB9 := (hL.bel hB hB.size).grown hg9 (by rw [hL.size]; exact hB.size) smb
          simp only [ES, List.mem_cons, List.not_mem_nil, implies_true, forall_const, WS, List.getElem_cons_zero, List.getElem_cons_succ, Option.isNone_some, Option.isNone_none, List.getD_cons_zero, List.getD_cons_succ, I.at, atL, atO, atP, evp, evs, retV, ↓reduceIte, Nat.reduceEqDiff, reduceCtorEq, t0, t2, t6, t7, t8, t9, t11, t12, t67, t68, wj, toI_int]
          refine ⟨⟨hB9, oq9, j + 1, _, rfl, by omega, om9, by simp [hmsl], fun i => ?_⟩, by omega⟩
          rw [co_set _ hkj, hmc i]
          by_cases hi : i = k + j
          · subst hi
            rw [if_pos rfl, if_pos ⟨by omega, by omega⟩]
            have := hmc (k + j)
            rw [if_neg (by omega), El.add_zero, co_get ms hkj] at this
            rw [this, show k + j - k = j by omega, co_get _ hj2]
          · rw [if_neg hi]
            have : (k ≤ i ∧ i < k + (j + 1)) = (k ≤ i ∧ i < k + j) := propext ⟨fun h => by omega, fun h => by omega⟩
            simp only [this]
        · have hje : j = d + 1 := by omega
          subst hje
          have hms : co ms = co m + Ps.mono k x * co l2 := Ps.ext fun i => by
            rw [hmc i, Ps.add_c, Ps.mono_mul]
            congr 1
            by_cases hki : k ≤ i
            · rw [if_pos hki]
              by_cases h3 : i < k + (d + 1)
              · rw [if_pos ⟨hki, h3⟩]
              · rw [if_neg (by omega), tln_dg l2 (i - k) (by omega), El.mul_zero]
            · rw [if_neg (by omega), if_neg hki]
          simp only [WS, List.getElem_cons_zero, List.getElem_cons_succ, Option.isNone_some, Option.isNone_none, List.getD_cons_zero, List.getD_cons_succ, I.at, atL, atO, atP, evp, evs, retV, ↓reduceIte, Nat.reduceEqDiff, reduceCtorEq, t0, t2, t6, t7, t8, t9, t11, t12, t67, t68, show decide (((d + 1 : Nat) : Int) < ((d + 1 : Nat) : Int)) = false from decide_eq_false (by omega), wk1, toI_int]
          refine ⟨⟨hB, k, q.set k x, ms, rfl, by omega, oq, om, hql', hmsl, ?_, fun i hi => ?_, hqz'⟩, by omega⟩
          · rw [hsm, hms, Ps.add_mul, hco]
            generalize co q * co l2 = A
            generalize Ps.mono k x * co l2 = B
            rw [show A + B + (co m + B) = A + co m + (B + B) by ac_rfl, Ps.add_self, Ps.add_zero]
          · rw [hms, Ps.add_c, Ps.mono_mul, if_pos (by omega)]
            by_cases hi2 : i = k + d
            · subst hi2
              rw [show k + d - k = d by omega, co_get m hkd, co_get l2 hdl, ← hx, El.mul_assoc, El.mul_comm c, hgc, El.mul_one, El.add_self]
            · rw [hdm i (by omega), tln_dg l2 (i - k) (by omega), El.mul_zero, El.add_zero]
end Go.Proofs.Ytbaljbadlfopgaa.Fw

namespace Go.Proofs.Ytbaljbadlfopgaa.Fw
open Go Go.Fw
theorem polys_Ring_b_DivMod_spec (w : World) (r s1 s2 : Value) (l1 l2 : List (El 8)) (hr : Ring_b w r) (h1 : Sl w s1 l1) (h2 : Sl w s2 l2) (hb1 : l1.length ≤ 70368744175616) (hb2 : l2.length ≤ 70368744175616) :
    CallV Try.prog 91 [r, s1, s2] w fun v w' => RowKit.Below w.heap.size w w' ∧
      ((l1.length ≤ 1024 ∧ l2.length ≤ 1024 ∧ tln l2 ≠ 0 ∧ ∃ sq sm q m, v = .tuple #[sq, sm, .int .i64 0] ∧ Ow w.heap.size w' sq q ∧ Ow w.heap.size w' sm m ∧ tr q = q ∧ tr m = m ∧ co l1 = co q * co l2 + co m ∧ m.length < tln l2 ∧ q.length = tln l1 - (tln l2 - 1)) ∨
       (l1.length ≤ 1024 ∧ l2.length ≤ 1024 ∧ tln l2 = 0 ∧ v = .tuple #[.slice none 0 0, .slice none 0 0, .int .i64 40]) ∨
       (¬ (l1.length ≤ 1024 ∧ l2.length ≤ 1024) ∧ v = .tuple #[.slice none 0 0, .slice none 0 0, .int .i64 5])) := by
  refine run_polys_Ring_b_DivMod (by simp) ?_
  simp only [c_polys_Ring_b_DivMod, WS, List.getElem_cons_zero, List.getElem_cons_succ, Option.isNone_some, Option.isNone_none, List.getD_cons_zero, List.getD_cons_succ, I.at, atL, atO, atP, evp, evs, retV, ↓reduceIte, Nat.reduceEqDiff, reduceCtorEq]
  obtain ⟨e1, n1⟩ := h1.hd
  obtain ⟨e2, n2⟩ := h2.hd
  refine X_bsl (zs := [hd s1, hd s2]) (fill2 h1 h2) rfl fun ls w1 ho hB => ?_
  obtain ⟨b, mv, iv, rfl, -, -⟩ := id hr
  simp only [WS, List.getElem_cons_zero, List.getElem_cons_succ, Option.isNone_some, Option.isNone_none, List.getD_cons_zero, List.getD_cons_succ, I.at, atL, atO, atP, evp, evs, retV, ↓reduceIte, Nat.reduceEqDiff, reduceCtorEq]
  refine X_call0 ((polys_Ring_b_refuses_spec w1 _ ls _ ho.sl (by simp) (by simp [n1, n2]; omega)).mono ?_)
  rintro v w' ⟨rfl, rfl⟩
  have hiff : (∀ x ∈ [hd s1, hd s2], x.n ≤ 1024) = (l1.length ≤ 1024 ∧ l2.length ≤ 1024) := by simp [n1, n2]
  by_cases hsz : l1.length ≤ 1024 ∧ l2.length ≤ 1024
  · rw [if_pos (hiff.mpr hsz)]
    simp only [WS, List.getElem_cons_zero, List.getElem_cons_succ, Option.isNone_some, Option.isNone_none, List.getD_cons_zero, List.getD_cons_succ, I.at, atL, atO, atP, evp, evs, retV, ↓reduceIte, Nat.reduceEqDiff, reduceCtorEq, show decide ((0 : Int) = 0) = true from rfl]
    refine X_call0 ((polys_degree_b_spec w' s2 l2 (h2.up hB) hb2).mono ?_)
    rintro v w2 ⟨rfl, rfl⟩
    by_cases hz : tln l2 = 0
    · simp only [WS, List.getElem_cons_zero, List.getElem_cons_succ, Option.isNone_some, Option.isNone_none, List.getD_cons_zero, List.getD_cons_succ, I.at, atL, atO, atP, evp, evs, retV, ↓reduceIte, Nat.reduceEqDiff, reduceCtorEq, show decide ((tln l2 : Int) - 1 < 0) = true from decide_eq_true (by omega)]
      exact ⟨hB, Or.inr (Or.inl ⟨hsz.1, hsz.2, hz⟩)⟩
    · simp only [WS, List.getElem_cons_zero, List.getElem_cons_succ, Option.isNone_some, Option.isNone_none, List.getD_cons_zero, List.getD_cons_succ, I.at, atL, atO, atP, evp, evs, retV, ↓reduceIte, Nat.reduceEqDiff, reduceCtorEq, show decide ((tln l2 : Int) - 1 < 0) = false from decide_eq_false (by omega)]
      refine X_call0 ((polys_Ring_b_divided_spec w2 _ s1 s2 l1 l2 (hr.up hB) (h1.up hB) (h2.up hB) hb1 hb2 hz).mono ?_)
      rintro v w3 ⟨sq, sm, q, m, rfl, oq, om, h3, h4, h5, h6, h7, hB2⟩
      simp only [WS, List.getElem_cons_zero, List.getElem_cons_succ, Option.isNone_some, Option.isNone_none, List.getD_cons_zero, List.getD_cons_succ, I.at, atL, atO, atP, evp, evs, retV, ↓reduceIte, Nat.reduceEqDiff, reduceCtorEq]
      exact ⟨hB.trans (hB2.mono hB.size), Or.inl ⟨hsz.1, hsz.2, hz, sq, sm, q, m, rfl, oq.mono hB.size, om.mono hB.size, h3, h4, h5, h6, h7⟩⟩
  · rw [if_neg (fun e => hsz (hiff.mp e))]
    simp only [WS, List.getElem_cons_zero, List.getElem_cons_succ, Option.isNone_some, Option.isNone_none, List.getD_cons_zero, List.getD_cons_succ, I.at, atL, atO, atP, evp, evs, retV, ↓reduceIte, Nat.reduceEqDiff, reduceCtorEq, show decide ((5 : Int) = 0) = false from rfl]
    exact ⟨hB, Or.inr (Or.inr hsz)⟩
end Go.Proofs.Ytbaljbadlfopgaa.Fw
