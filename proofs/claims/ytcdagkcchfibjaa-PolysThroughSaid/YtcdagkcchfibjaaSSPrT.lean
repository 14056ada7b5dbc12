import Derived.Test.YtcdagkcchfibjaaProg
import Derived.Test.YtcdagkcchfibjaaFwTT
import Derived.Test.YtcdagkcchfibjaaSSPiT
import Derived.Test.YtcdagkcchfibjaaSS04gT
set_option linter.all false
set_option linter.unusedVariables false
set_option linter.unusedSimpArgs false
set_option maxRecDepth 100000
set_option maxHeartbeats 1000000
namespace Go.Proofs.Ytcdagkcchfibjaa.Fw
open Go Go.Fw Go.Proofs
attribute [local irreducible] stepI
def c_culletlaw04_Rings_interpolate : C := .seq (.ops [⟨0, (some 4), none, .box 25 (.t 0), []⟩, ⟨1, (some 8), none, .mov (.c (.slice none 0 0)), []⟩, ⟨2, (some 9), none, .mov (.c (.int .i64 0)), []⟩]) (.seq (.seq (.ops [⟨0, (some 14), none, .mov (.t 1), []⟩]) (.ite (.t 14) (.seq (.dops [⟨0, (some 16), none, .fad 1 (.t 4), []⟩, ⟨1, (some 17), none, .ld (.t 16), []⟩, ⟨2, (some 18), none, .mov (.t 2), []⟩, ⟨3, (some 19), none, .call (.c (.func (.func 38) #[] #[])) [.t 18], [1]⟩, ⟨4, (some 20), none, .mov (.t 3), []⟩, ⟨5, (some 21), none, .call (.c (.func (.func 38) #[] #[])) [.t 20], [1]⟩, ⟨6, (some 22), none, .call (.c (.func (.func 47) #[] #[])) [.t 17, .t 19, .t 21], []⟩, ⟨7, (some 15), none, .mov (.t 22), []⟩, ⟨8, (some 23), none, .ext (.t 15) 0, []⟩, ⟨9, (some 24), none, .ext (.t 15) 1, []⟩, ⟨10, (some 10), none, .mov (.t 23), []⟩, ⟨11, (some 11), none, .mov (.t 24), []⟩]) (.seq (.ops [⟨0, (some 25), none, .mov (.t 10), []⟩, ⟨1, (some 26), none, .mov (.t 11), []⟩, ⟨2, (some 8), none, .mov (.t 25), []⟩, ⟨3, (some 9), none, .mov (.t 26), []⟩]) .ret)) .skip)) (.seq (.dops [⟨0, (some 28), none, .fad 0 (.t 4), []⟩, ⟨1, (some 29), none, .ld (.t 28), []⟩, ⟨2, (some 30), none, .mov (.t 2), []⟩, ⟨3, (some 31), none, .call (.c (.func (.func 40) #[] #[])) [.t 30], [1]⟩, ⟨4, (some 32), none, .mov (.t 3), []⟩, ⟨5, (some 33), none, .call (.c (.func (.func 40) #[] #[])) [.t 32], [1]⟩, ⟨6, (some 34), none, .call (.c (.func (.func 48) #[] #[])) [.t 29, .t 31, .t 33], []⟩, ⟨7, (some 27), none, .mov (.t 34), []⟩, ⟨8, (some 35), none, .ext (.t 27) 0, []⟩, ⟨9, (some 36), none, .ext (.t 27) 1, []⟩, ⟨10, (some 12), none, .mov (.t 35), []⟩, ⟨11, (some 13), none, .mov (.t 36), []⟩]) (.seq (.ops [⟨0, (some 37), none, .mov (.t 12), []⟩, ⟨1, (some 38), none, .call (.c (.func (.func 41) #[] #[])) [.t 37], []⟩, ⟨2, (some 39), none, .mov (.t 13), []⟩, ⟨3, (some 8), none, .mov (.t 38), []⟩, ⟨4, (some 9), none, .mov (.t 39), []⟩]) .ret)))
attribute [irreducible] c_culletlaw04_Rings_interpolate
theorem run_culletlaw04_Rings_interpolate {args : List Value} {w : World} {K : Value → World → Prop} (hn : args.length ≤ 40) (h : WP Try.prog c_culletlaw04_Rings_interpolate (endQ [.t 8, .t 9] K) (initT args) w) : CallV Try.prog 20 args w K :=
  call_of follows Try.func20 (by kernel_rfl) (by kernel_rfl) hn h
end Go.Proofs.Ytcdagkcchfibjaa.Fw
namespace Go.Proofs.Ytcdagkcchfibjaa.Fw
open Go Go.Fw
theorem culletlaw04_Rings_interpolate_w_spec (w : World) (rb rw s1 s2 : Value) (L1 L2 : List (El 16)) (hb : Ring_b w rb) (hw : Ring_w w rw) (h1 : Sl w s1 L1) (h2 : Sl w s2 L2) (b1 : L1.length ≤ 70368744175616) (b2 : L2.length ≤ 70368744175616) :
    CallV Try.prog 20 [.agg #[rb, rw], .bool true, s1, s2] w fun v w' => RowKit.Below w.heap.size w w' ∧ ((L1.length ≤ 1024 ∧ L2.length ≤ 1024 ∧ L2.length = L1.length ∧ (∀ a b, a < (L1.map lo16).length → b < (L1.map lo16).length → (L1.map lo16).getD a 0 = (L1.map lo16).getD b 0 → a = b) ∧ ∃ s m, v = .tuple #[s, .int .i64 0] ∧ Ow w.heap.size w' s (m.map em16) ∧ tr m = m ∧ co m = nw (fun j => (L1.map lo16).getD j 0) (fun j => (L2.map lo16).getD j 0) 0 L1.length ∧ m.length ≤ L1.length) ∨ (∃ s e, v = .tuple #[s, .int .i64 e] ∧ Ow w.heap.size w' s ([] : List (El 16)) ∧ ((L1.length ≤ 1024 ∧ L2.length ≤ 1024 ∧ L2.length ≠ L1.length ∧ e = 6) ∨ (L1.length ≤ 1024 ∧ L2.length ≤ 1024 ∧ L2.length = L1.length ∧ ¬ (∀ a b, a < (L1.map lo16).length → b < (L1.map lo16).length → (L1.map lo16).getD a 0 = (L1.map lo16).getD b 0 → a = b) ∧ e = 41) ∨ (¬ (L1.length ≤ 1024 ∧ L2.length ≤ 1024) ∧ e = 5)))) := by
  refine run_culletlaw04_Rings_interpolate (by simp) ?_
  simp only [c_culletlaw04_Rings_interpolate, WS, List.getElem_cons_zero, List.getElem_cons_succ, Option.isNone_some, Option.isNone_none, List.getD_cons_zero, List.getD_cons_succ, I.at, atL, atO, atP, evp, evs, retV, ↓reduceIte, Nat.reduceEqDiff, reduceCtorEq]
  refine X_box fun b w1 hr hlb hB1 => ?_
  have hr : Row w1 b [rb, rw] := hr
  simp only [WS, List.getElem_cons_zero, List.getElem_cons_succ, Option.isNone_some, Option.isNone_none, List.getD_cons_zero, List.getD_cons_succ, I.at, atL, atO, atP, evp, evs, retV, ↓reduceIte, Nat.reduceEqDiff, reduceCtorEq]
  refine WP_dops ?_
  have hd0 := hr.drew
  have B0 : RowKit.Below w.heap.size w w1.drew := hB1.trans ((bel_drew w1).mono hB1.size)
  simp only [ES, List.mem_cons, List.not_mem_nil, implies_true, forall_const, WS, List.getElem_cons_zero, List.getElem_cons_succ, Option.isNone_some, Option.isNone_none, List.getD_cons_zero, List.getD_cons_succ, I.at, atL, atO, atP, evp, evs, retV, ↓reduceIte, Nat.reduceEqDiff, reduceCtorEq, addr_add0, Nat.add_zero, Nat.zero_add, hd0.Eld (show 1 < [rb, rw].length by simp)]
  refine E_call0 ((culletlaw04_twin_spec w1.drew s1 L1 (h1.up B0) b1).mono ?_)
  rintro a1 v1 ⟨o1, c1⟩
  have B1 : RowKit.Below w.heap.size w v1 := B0.trans (c1.mono B0.size)
  have r1 := hd0.up c1
  have z1 : Fw.sees Try.prog (.ld (.c (.pointer (some ⟨b, 1, none⟩)))) v1 rw = True := r1.sees (o := 1) (by simp) Try.prog
  simp only [ES, List.mem_cons, List.not_mem_nil, implies_true, forall_const, WS, List.getElem_cons_zero, List.getElem_cons_succ, Option.isNone_some, Option.isNone_none, List.getD_cons_zero, List.getD_cons_succ, I.at, atL, atO, atP, evp, evs, retV, ↓reduceIte, Nat.reduceEqDiff, reduceCtorEq, z1]
  refine E_call0 ((culletlaw04_twin_spec v1 s2 L2 (h2.up B1) b2).mono ?_)
  rintro a2 v2 ⟨o2, c2⟩
  have B2 : RowKit.Below w.heap.size w v2 := B1.trans (c2.mono B1.size)
  have r2 := r1.up c2
  have z2 : Fw.sees Try.prog (.ld (.c (.pointer (some ⟨b, 1, none⟩)))) v2 rw = True := r2.sees (o := 1) (by simp) Try.prog
  have o1 := o1.up c2
  simp only [ES, List.mem_cons, List.not_mem_nil, implies_true, forall_const, WS, List.getElem_cons_zero, List.getElem_cons_succ, Option.isNone_some, Option.isNone_none, List.getD_cons_zero, List.getD_cons_succ, I.at, atL, atO, atP, evp, evs, retV, ↓reduceIte, Nat.reduceEqDiff, reduceCtorEq, z2]
  refine E_call0 ((polys_Ring_w_Interpolate_spec v2 rw a1 a2 L1 L2 (hw.up B2) o1.sl o2.sl b1 b2).mono ?_)
  simp only [lo16_map]
  rintro v w9 ⟨B9, ⟨g0, g1, g2, g3, s, m, rfl, om, q0, q1, q2⟩ | ⟨g0, g1, g2, rfl⟩ | ⟨g0, g1, g2, g3, rfl⟩ | ⟨hn, rfl⟩⟩
  · simp only [ES, List.mem_cons, List.not_mem_nil, implies_true, forall_const, WS, List.getElem_cons_zero, List.getElem_cons_succ, Option.isNone_some, Option.isNone_none, List.getD_cons_zero, List.getD_cons_succ, I.at, atL, atO, atP, evp, evs, retV, ↓reduceIte, Nat.reduceEqDiff, reduceCtorEq]
    exact ⟨B2.trans (B9.mono B2.size), Or.inl ⟨g0, g1, g2, g3, s, m, rfl, by rw [em16_map]; exact om.mono B2.size, q0, q1, q2⟩⟩
  · simp only [ES, List.mem_cons, List.not_mem_nil, implies_true, forall_const, WS, List.getElem_cons_zero, List.getElem_cons_succ, Option.isNone_some, Option.isNone_none, List.getD_cons_zero, List.getD_cons_succ, I.at, atL, atO, atP, evp, evs, retV, ↓reduceIte, Nat.reduceEqDiff, reduceCtorEq]
    exact ⟨B2.trans (B9.mono B2.size), Or.inr ⟨_, 6, rfl, Ow.nil _ _, Or.inl ⟨g0, g1, g2, rfl⟩⟩⟩
  · simp only [ES, List.mem_cons, List.not_mem_nil, implies_true, forall_const, WS, List.getElem_cons_zero, List.getElem_cons_succ, Option.isNone_some, Option.isNone_none, List.getD_cons_zero, List.getD_cons_succ, I.at, atL, atO, atP, evp, evs, retV, ↓reduceIte, Nat.reduceEqDiff, reduceCtorEq]
    exact ⟨B2.trans (B9.mono B2.size), Or.inr ⟨_, 41, rfl, Ow.nil _ _, Or.inr (Or.inl ⟨g0, g1, g2, g3, rfl⟩)⟩⟩
  · simp only [ES, List.mem_cons, List.not_mem_nil, implies_true, forall_const, WS, List.getElem_cons_zero, List.getElem_cons_succ, Option.isNone_some, Option.isNone_none, List.getD_cons_zero, List.getD_cons_succ, I.at, atL, atO, atP, evp, evs, retV, ↓reduceIte, Nat.reduceEqDiff, reduceCtorEq]
    exact ⟨B2.trans (B9.mono B2.size), Or.inr ⟨_, 5, rfl, Ow.nil _ _, Or.inr (Or.inr ⟨hn, rfl⟩)⟩⟩
theorem culletlaw04_Rings_interpolate_b_spec (w : World) (rb rw s1 s2 : Value) (L1 L2 : List (El 16)) (hb : Ring_b w rb) (hw : Ring_w w rw) (h1 : Sl w s1 L1) (h2 : Sl w s2 L2) (b1 : L1.length ≤ 70368744175616) (b2 : L2.length ≤ 70368744175616) :
    CallV Try.prog 20 [.agg #[rb, rw], .bool false, s1, s2] w fun v w' => RowKit.Below w.heap.size w w' ∧ ((L1.length ≤ 1024 ∧ L2.length ≤ 1024 ∧ L2.length = L1.length ∧ (∀ a b, a < (L1.map lo8).length → b < (L1.map lo8).length → (L1.map lo8).getD a 0 = (L1.map lo8).getD b 0 → a = b) ∧ ∃ s m, v = .tuple #[s, .int .i64 0] ∧ Ow w.heap.size w' s (m.map em8) ∧ tr m = m ∧ co m = nw (fun j => (L1.map lo8).getD j 0) (fun j => (L2.map lo8).getD j 0) 0 L1.length ∧ m.length ≤ L1.length) ∨ (∃ s e, v = .tuple #[s, .int .i64 e] ∧ Ow w.heap.size w' s ([] : List (El 16)) ∧ ((L1.length ≤ 1024 ∧ L2.length ≤ 1024 ∧ L2.length ≠ L1.length ∧ e = 6) ∨ (L1.length ≤ 1024 ∧ L2.length ≤ 1024 ∧ L2.length = L1.length ∧ ¬ (∀ a b, a < (L1.map lo8).length → b < (L1.map lo8).length → (L1.map lo8).getD a 0 = (L1.map lo8).getD b 0 → a = b) ∧ e = 41) ∨ (¬ (L1.length ≤ 1024 ∧ L2.length ≤ 1024) ∧ e = 5)))) := by
  refine run_culletlaw04_Rings_interpolate (by simp) ?_
  simp only [c_culletlaw04_Rings_interpolate, WS, List.getElem_cons_zero, List.getElem_cons_succ, Option.isNone_some, Option.isNone_none, List.getD_cons_zero, List.getD_cons_succ, I.at, atL, atO, atP, evp, evs, retV, ↓reduceIte, Nat.reduceEqDiff, reduceCtorEq]
  refine X_box fun b w1 hr hlb hB1 => ?_
  have hr : Row w1 b [rb, rw] := hr
  simp only [WS, List.getElem_cons_zero, List.getElem_cons_succ, Option.isNone_some, Option.isNone_none, List.getD_cons_zero, List.getD_cons_succ, I.at, atL, atO, atP, evp, evs, retV, ↓reduceIte, Nat.reduceEqDiff, reduceCtorEq]
  refine WP_dops ?_
  have hd0 := hr.drew
  have B0 : RowKit.Below w.heap.size w w1.drew := hB1.trans ((bel_drew w1).mono hB1.size)
  simp only [ES, List.mem_cons, List.not_mem_nil, implies_true, forall_const, WS, List.getElem_cons_zero, List.getElem_cons_succ, Option.isNone_some, Option.isNone_none, List.getD_cons_zero, List.getD_cons_succ, I.at, atL, atO, atP, evp, evs, retV, ↓reduceIte, Nat.reduceEqDiff, reduceCtorEq, addr_add0, Nat.add_zero, Nat.zero_add, hd0.Eld (show 0 < [rb, rw].length by simp)]
  refine E_call0 ((culletlaw04_low_spec w1.drew s1 L1 (h1.up B0) b1).mono ?_)
  rintro a1 v1 ⟨o1, c1⟩
  have B1 : RowKit.Below w.heap.size w v1 := B0.trans (c1.mono B0.size)
  have r1 := hd0.up c1
  have z1 : Fw.sees Try.prog (.ld (.c (.pointer (some ⟨b, 0, none⟩)))) v1 rb = True := r1.sees (o := 0) (by simp) Try.prog
  simp only [ES, List.mem_cons, List.not_mem_nil, implies_true, forall_const, WS, List.getElem_cons_zero, List.getElem_cons_succ, Option.isNone_some, Option.isNone_none, List.getD_cons_zero, List.getD_cons_succ, I.at, atL, atO, atP, evp, evs, retV, ↓reduceIte, Nat.reduceEqDiff, reduceCtorEq, z1]
  refine E_call0 ((culletlaw04_low_spec v1 s2 L2 (h2.up B1) b2).mono ?_)
  rintro a2 v2 ⟨o2, c2⟩
  have B2 : RowKit.Below w.heap.size w v2 := B1.trans (c2.mono B1.size)
  have r2 := r1.up c2
  have z2 : Fw.sees Try.prog (.ld (.c (.pointer (some ⟨b, 0, none⟩)))) v2 rb = True := r2.sees (o := 0) (by simp) Try.prog
  have o1 := o1.up c2
  simp only [ES, List.mem_cons, List.not_mem_nil, implies_true, forall_const, WS, List.getElem_cons_zero, List.getElem_cons_succ, Option.isNone_some, Option.isNone_none, List.getD_cons_zero, List.getD_cons_succ, I.at, atL, atO, atP, evp, evs, retV, ↓reduceIte, Nat.reduceEqDiff, reduceCtorEq, z2]
  refine E_call0 ((polys_Ring_b_Interpolate_spec v2 rb a1 a2 (L1.map lo8) (L2.map lo8) (hb.up B2) o1.sl o2.sl (by rw [List.length_map]; exact b1) (by rw [List.length_map]; exact b2)).mono ?_)
  have m1 : (L1.map lo8).length = L1.length := List.length_map ..
  have m2 : (L2.map lo8).length = L2.length := List.length_map ..
  rintro v w9 ⟨B9, ⟨g0, g1, g2, g3, s, m, rfl, om, q0, q1, q2⟩ | ⟨g0, g1, g2, rfl⟩ | ⟨g0, g1, g2, g3, rfl⟩ | ⟨hn, rfl⟩⟩
  · simp only [ES, List.mem_cons, List.not_mem_nil, implies_true, forall_const, WS, List.getElem_cons_zero, List.getElem_cons_succ, Option.isNone_some, Option.isNone_none, List.getD_cons_zero, List.getD_cons_succ, I.at, atL, atO, atP, evp, evs, retV, ↓reduceIte, Nat.reduceEqDiff, reduceCtorEq]
    refine X_call0 ((culletlaw04_up_spec w9 _ m om.sl (by omega)).mono ?_)
    rintro v2 w10 ⟨o10, B10⟩
    simp only [WS, List.getElem_cons_zero, List.getElem_cons_succ, Option.isNone_some, Option.isNone_none, List.getD_cons_zero, List.getD_cons_succ, I.at, atL, atO, atP, evp, evs, retV, ↓reduceIte, Nat.reduceEqDiff, reduceCtorEq]
    exact ⟨(B2.trans (B9.mono B2.size)).trans (B10.mono (Nat.le_trans B2.size B9.size)), Or.inl ⟨by omega, by omega, by omega, g3, v2, m, rfl, o10.mono (Nat.le_trans B2.size B9.size), q0, by rw [q1, m1], by omega⟩⟩
  · simp only [ES, List.mem_cons, List.not_mem_nil, implies_true, forall_const, WS, List.getElem_cons_zero, List.getElem_cons_succ, Option.isNone_some, Option.isNone_none, List.getD_cons_zero, List.getD_cons_succ, I.at, atL, atO, atP, evp, evs, retV, ↓reduceIte, Nat.reduceEqDiff, reduceCtorEq]
    refine X_call0 ((culletlaw04_up_spec w9 _ ([] : List (El 8)) (Sl.nil w9) (by simp)).mono ?_)
    rintro v2 w10 ⟨o10, B10⟩
    simp only [WS, List.getElem_cons_zero, List.getElem_cons_succ, Option.isNone_some, Option.isNone_none, List.getD_cons_zero, List.getD_cons_succ, I.at, atL, atO, atP, evp, evs, retV, ↓reduceIte, Nat.reduceEqDiff, reduceCtorEq]
    exact ⟨(B2.trans (B9.mono B2.size)).trans (B10.mono (Nat.le_trans B2.size B9.size)), Or.inr ⟨v2, 6, rfl, o10.mono (Nat.le_trans B2.size B9.size), Or.inl ⟨by omega, by omega, by omega, rfl⟩⟩⟩
  · simp only [ES, List.mem_cons, List.not_mem_nil, implies_true, forall_const, WS, List.getElem_cons_zero, List.getElem_cons_succ, Option.isNone_some, Option.isNone_none, List.getD_cons_zero, List.getD_cons_succ, I.at, atL, atO, atP, evp, evs, retV, ↓reduceIte, Nat.reduceEqDiff, reduceCtorEq]
    refine X_call0 ((culletlaw04_up_spec w9 _ ([] : List (El 8)) (Sl.nil w9) (by simp)).mono ?_)
    rintro v2 w10 ⟨o10, B10⟩
    simp only [WS, List.getElem_cons_zero, List.getElem_cons_succ, Option.isNone_some, Option.isNone_none, List.getD_cons_zero, List.getD_cons_succ, I.at, atL, atO, atP, evp, evs, retV, ↓reduceIte, Nat.reduceEqDiff, reduceCtorEq]
    exact ⟨(B2.trans (B9.mono B2.size)).trans (B10.mono (Nat.le_trans B2.size B9.size)), Or.inr ⟨v2, 41, rfl, o10.mono (Nat.le_trans B2.size B9.size), Or.inr (Or.inl ⟨by omega, by omega, by omega, g3, rfl⟩)⟩⟩
  · simp only [ES, List.mem_cons, List.not_mem_nil, implies_true, forall_const, WS, List.getElem_cons_zero, List.getElem_cons_succ, Option.isNone_some, Option.isNone_none, List.getD_cons_zero, List.getD_cons_succ, I.at, atL, atO, atP, evp, evs, retV, ↓reduceIte, Nat.reduceEqDiff, reduceCtorEq]
    refine X_call0 ((culletlaw04_up_spec w9 _ ([] : List (El 8)) (Sl.nil w9) (by simp)).mono ?_)
    rintro v2 w10 ⟨o10, B10⟩
    simp only [WS, List.getElem_cons_zero, List.getElem_cons_succ, Option.isNone_some, Option.isNone_none, List.getD_cons_zero, List.getD_cons_succ, I.at, atL, atO, atP, evp, evs, retV, ↓reduceIte, Nat.reduceEqDiff, reduceCtorEq]
    exact ⟨(B2.trans (B9.mono B2.size)).trans (B10.mono (Nat.le_trans B2.size B9.size)), Or.inr ⟨v2, 5, rfl, o10.mono (Nat.le_trans B2.size B9.size), Or.inr (Or.inr ⟨by omega, rfl⟩)⟩⟩
end Go.Proofs.Ytcdagkcchfibjaa.Fw
