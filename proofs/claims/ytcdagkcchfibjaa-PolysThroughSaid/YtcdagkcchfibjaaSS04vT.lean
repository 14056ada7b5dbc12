import Derived.Test.YtcdagkcchfibjaaProg
import Derived.Test.YtcdagkcchfibjaaFwTT
import Derived.Test.YtcdagkcchfibjaaSS04wT
set_option linter.all false
set_option linter.unusedVariables false
set_option linter.unusedSimpArgs false
set_option maxRecDepth 100000
set_option maxHeartbeats 1000000
namespace Go.Proofs.Ytcdagkcchfibjaa.Fw
open Go Go.Fw Go.Proofs
attribute [local irreducible] stepI
def c_culletlaw04_Rings_trim : C := .seq (.ops [⟨0, (some 3), none, .box 25 (.t 0), []⟩, ⟨1, (some 6), none, .mov (.c (.slice none 0 0)), []⟩]) (.seq (.seq (.ops [⟨0, (some 7), none, .mov (.t 1), []⟩]) (.ite (.t 7) (.seq (.dops [⟨0, (some 8), none, .fad 1 (.t 3), []⟩, ⟨1, (some 9), none, .ld (.t 8), []⟩, ⟨2, (some 10), none, .mov (.t 2), []⟩, ⟨3, (some 11), none, .call (.c (.func (.func 38) #[] #[])) [.t 10], [1]⟩, ⟨4, (some 12), none, .call (.c (.func (.func 49) #[] #[])) [.t 9, .t 11], []⟩, ⟨5, (some 6), none, .mov (.t 12), []⟩]) .ret) .skip)) (.seq (.dops [⟨0, (some 13), none, .fad 0 (.t 3), []⟩, ⟨1, (some 14), none, .ld (.t 13), []⟩, ⟨2, (some 15), none, .mov (.t 2), []⟩, ⟨3, (some 16), none, .call (.c (.func (.func 40) #[] #[])) [.t 15], [1]⟩, ⟨4, (some 17), none, .call (.c (.func (.func 50) #[] #[])) [.t 14, .t 16], []⟩, ⟨5, (some 18), none, .call (.c (.func (.func 41) #[] #[])) [.t 17], []⟩, ⟨6, (some 6), none, .mov (.t 18), []⟩]) .ret))
attribute [irreducible] c_culletlaw04_Rings_trim
theorem run_culletlaw04_Rings_trim {args : List Value} {w : World} {K : Value → World → Prop} (hn : args.length ≤ 19) (h : WP Try.prog c_culletlaw04_Rings_trim (endQ [.t 6] K) (initT args) w) : CallV Try.prog 22 args w K :=
  call_of follows Try.func22 (by kernel_rfl) (by kernel_rfl) hn h
end Go.Proofs.Ytcdagkcchfibjaa.Fw
namespace Go.Proofs.Ytcdagkcchfibjaa.Fw
open Go Go.Fw
theorem polys_Ring_w_Trim2_spec (w : World) (r s : Value) (l : List (El 16)) (hr : Ring_w w r) (h : Sl w s l) (hb : l.length ≤ 70368744175616) :
    CallV Try.prog 49 [r, s] w fun v w' => ∃ m, Ow w.heap.size w' v m ∧ tr m = m ∧ co m = co l ∧ m.length ≤ l.length ∧ RowKit.Below w.heap.size w w' :=
  (polys_Ring_w_Trim_spec w r s l hr h hb).mono fun v w' ⟨h1, h2⟩ => ⟨tr l, h1, tr_tr l, tr_co l, by rw [tr_len]; exact tln_le l, h2⟩
end Go.Proofs.Ytcdagkcchfibjaa.Fw

namespace Go.Proofs.Ytcdagkcchfibjaa.Fw
open Go Go.Fw
theorem polys_Ring_b_Trim2_spec (w : World) (r s : Value) (l : List (El 8)) (hr : Ring_b w r) (h : Sl w s l) (hb : l.length ≤ 70368744175616) :
    CallV Try.prog 50 [r, s] w fun v w' => ∃ m, Ow w.heap.size w' v m ∧ tr m = m ∧ co m = co l ∧ m.length ≤ l.length ∧ RowKit.Below w.heap.size w w' :=
  (polys_Ring_b_Trim_spec w r s l hr h hb).mono fun v w' ⟨h1, h2⟩ => ⟨tr l, h1, tr_tr l, tr_co l, by rw [tr_len]; exact tln_le l, h2⟩
end Go.Proofs.Ytcdagkcchfibjaa.Fw

namespace Go.Proofs.Ytcdagkcchfibjaa.Fw
open Go Go.Fw
theorem culletlaw04_Rings_trim_w_spec (w : World) (rb rw s1 : Value) (L1 : List (El 16)) (hb : Ring_b w rb) (hw : Ring_w w rw) (h1 : Sl w s1 L1) (b1 : L1.length ≤ 70368744175616) :
    CallV Try.prog 22 [.agg #[rb, rw], .bool true, s1] w fun v w' => RowKit.Below w.heap.size w w' ∧ ∃ m, Ow w.heap.size w' v (m.map em16) ∧ tr m = m ∧ co m = co (L1.map lo16) ∧ m.length ≤ (L1.map lo16).length := by
  refine run_culletlaw04_Rings_trim (by simp) ?_
  simp only [c_culletlaw04_Rings_trim, WS, List.getElem_cons_zero, List.getElem_cons_succ, Option.isNone_some, Option.isNone_none, List.getD_cons_zero, List.getD_cons_succ, I.at, atL, atO, atP, evp, evs, retV, ↓reduceIte, Nat.reduceEqDiff, reduceCtorEq]
  refine X_box fun b w1 hr hlb hB1 => ?_
  have hr : Row w1 b [rb, rw] := hr
  simp only [WS, List.getElem_cons_zero, List.getElem_cons_succ, Option.isNone_some, Option.isNone_none, List.getD_cons_zero, List.getD_cons_succ, I.at, atL, atO, atP, evp, evs, retV, ↓reduceIte, Nat.reduceEqDiff, reduceCtorEq]
  refine WP_dops ?_
  have hd0 := hr.drew
  have B0 : RowKit.Below w.heap.size w w1.drew := hB1.trans ((bel_drew w1).mono hB1.size)
  simp only [ES, List.mem_cons, List.not_mem_nil, implies_true, forall_const, WS, List.getElem_cons_zero, List.getElem_cons_succ, Option.isNone_some, Option.isNone_none, List.getD_cons_zero, List.getD_cons_succ, I.at, atL, atO, atP, evp, evs, retV, ↓reduceIte, Nat.reduceEqDiff, reduceCtorEq, addr_add0, Nat.add_zero, Nat.zero_add, hd0.Eld (show 1 < [rb, rw].length by simp)]
  refine E_call0 ((culletlaw04_twin_spec w1.drew s1 L1 (h1.up B0) b1).mono ?_)
  rintro a1 v1 ⟨o1, c1⟩
  have B1 : RowKit.Below w.heap.size w v1 := B0.trans (c1.mono B0.size)
  have r1 := hd0.up c1
  have z1 : Fw.sees Try.prog (.ld (.c (.pointer (some ⟨b, 1, none⟩)))) v1 rw = True := r1.sees (o := 1) (by simp) Try.prog
  simp only [ES, List.mem_cons, List.not_mem_nil, implies_true, forall_const, WS, List.getElem_cons_zero, List.getElem_cons_succ, Option.isNone_some, Option.isNone_none, List.getD_cons_zero, List.getD_cons_succ, I.at, atL, atO, atP, evp, evs, retV, ↓reduceIte, Nat.reduceEqDiff, reduceCtorEq, z1]
  refine E_call0 ((polys_Ring_w_Trim2_spec v1 rw a1 L1 (hw.up B1) o1.sl b1).mono ?_)
  rintro v w9 ⟨m, om, q0, q1, q2, B9⟩
  simp only [ES, List.mem_cons, List.not_mem_nil, implies_true, forall_const, WS, List.getElem_cons_zero, List.getElem_cons_succ, Option.isNone_some, Option.isNone_none, List.getD_cons_zero, List.getD_cons_succ, I.at, atL, atO, atP, evp, evs, retV, ↓reduceIte, Nat.reduceEqDiff, reduceCtorEq]
  refine ⟨B1.trans (B9.mono B1.size), m, by rw [em16_map]; exact om.mono B1.size, ?_⟩
  simp only [lo16_map]
  exact ⟨q0, q1, q2⟩
theorem culletlaw04_Rings_trim_b_spec (w : World) (rb rw s1 : Value) (L1 : List (El 16)) (hb : Ring_b w rb) (hw : Ring_w w rw) (h1 : Sl w s1 L1) (b1 : L1.length ≤ 70368744175616) :
    CallV Try.prog 22 [.agg #[rb, rw], .bool false, s1] w fun v w' => RowKit.Below w.heap.size w w' ∧ ∃ m, Ow w.heap.size w' v (m.map em8) ∧ tr m = m ∧ co m = co (L1.map lo8) ∧ m.length ≤ (L1.map lo8).length := by
  refine run_culletlaw04_Rings_trim (by simp) ?_
  simp only [c_culletlaw04_Rings_trim, WS, List.getElem_cons_zero, List.getElem_cons_succ, Option.isNone_some, Option.isNone_none, List.getD_cons_zero, List.getD_cons_succ, I.at, atL, atO, atP, evp, evs, retV, ↓reduceIte, Nat.reduceEqDiff, reduceCtorEq]
  refine X_box fun b w1 hr hlb hB1 => ?_
  have hr : Row w1 b [rb, rw] := hr
  simp only [WS, List.getElem_cons_zero, List.getElem_cons_succ, Option.isNone_some, Option.isNone_none, List.getD_cons_zero, List.getD_cons_succ, I.at, atL, atO, atP, evp, evs, retV, ↓reduceIte, Nat.reduceEqDiff, reduceCtorEq]
  refine WP_dops ?_
  have hd0 := hr.drew
  have B0 : RowKit.Below w.heap.size w w1.drew := hB1.trans ((bel_drew w1).mono hB1.size)
  simp only [ES, List.mem_cons, List.not_mem_nil, implies_true, forall_const, WS, List.getElem_cons_zero, List.getElem_cons_succ, Option.isNone_some, Option.isNone_none, List.getD_cons_zero, List.getD_cons_succ, I.at, atL, atO, atP, evp, evs, retV, ↓reduceIte, Nat.reduceEqDiff, reduceCtorEq, addr_add0, Nat.add_zero, Nat.zero_add, hd0.Eld (show 0 < [rb, rw].length by simp)]
  refine E_call0 ((culletlaw04_low_spec w1.drew s1 L1 (h1.up B0) b1).mono ?_)
  rintro a1 v1 ⟨o1, c1⟩
  have B1 : RowKit.Below w.heap.size w v1 := B0.trans (c1.mono B0.size)
  have r1 := hd0.up c1
  have z1 : Fw.sees Try.prog (.ld (.c (.pointer (some ⟨b, 0, none⟩)))) v1 rb = True := r1.sees (o := 0) (by simp) Try.prog
  simp only [ES, List.mem_cons, List.not_mem_nil, implies_true, forall_const, WS, List.getElem_cons_zero, List.getElem_cons_succ, Option.isNone_some, Option.isNone_none, List.getD_cons_zero, List.getD_cons_succ, I.at, atL, atO, atP, evp, evs, retV, ↓reduceIte, Nat.reduceEqDiff, reduceCtorEq, z1]
  refine E_call0 ((polys_Ring_b_Trim2_spec v1 rb a1 (L1.map lo8) (hb.up B1) o1.sl (by rw [List.length_map]; exact b1)).mono ?_)
  rintro v w9 ⟨m, om, q0, q1, q2, B9⟩
  simp only [ES, List.mem_cons, List.not_mem_nil, implies_true, forall_const, WS, List.getElem_cons_zero, List.getElem_cons_succ, Option.isNone_some, Option.isNone_none, List.getD_cons_zero, List.getD_cons_succ, I.at, atL, atO, atP, evp, evs, retV, ↓reduceIte, Nat.reduceEqDiff, reduceCtorEq]
  refine E_call0 ((culletlaw04_up_spec w9 v m om.sl (by simp only [List.length_map] at *; omega)).mono ?_)
  rintro v2 w10 ⟨o10, B10⟩
  simp only [ES, List.mem_cons, List.not_mem_nil, implies_true, forall_const, WS, List.getElem_cons_zero, List.getElem_cons_succ, Option.isNone_some, Option.isNone_none, List.getD_cons_zero, List.getD_cons_succ, I.at, atL, atO, atP, evp, evs, retV, ↓reduceIte, Nat.reduceEqDiff, reduceCtorEq]
  refine ⟨(B1.trans (B9.mono B1.size)).trans (B10.mono (Nat.le_trans B1.size B9.size)), m, o10.mono (Nat.le_trans B1.size B9.size), ?_⟩
  simp only [List.length_map] at *
  exact ⟨q0, q1, q2⟩
end Go.Proofs.Ytcdagkcchfibjaa.Fw
