import Derived.Test.YtcdagkcchfibjaaGreatProg
import Derived.Test.YtcdagkcchfibjaaGreatFwTP
import Derived.Test.YtcdagkcchfibjaaGreatSZPiP
import Derived.Test.YtcdagkcchfibjaaGreatSZgP
import Derived.Test.YtcdagkcchfibjaaGreatGfXP
import Derived.Test.YtcdagkcchfibjaaGreatSZW1P
set_option linter.all false
set_option linter.unusedVariables false
set_option linter.unusedSimpArgs false
set_option maxRecDepth 100000
set_option maxHeartbeats 1000000
namespace Go.Proofs.YtcdagkcchfibjaaGreat.Fw
open Go Go.Fw Go.Proofs
attribute [local irreducible] stepI
def c_culletlaw04_Rings_interpolate : C := .seq (.ops [⟨0, (some 4), none, .box 28 (.t 0), []⟩, ⟨1, (some 8), none, .mov (.c (.slice none 0 0)), []⟩, ⟨2, (some 9), none, .mov (.c (.int .i64 0)), []⟩]) (.seq (.seq (.ops [⟨0, (some 14), none, .mov (.t 1), []⟩]) (.ite (.t 14) (.seq (.dops [⟨0, (some 16), none, .fad 1 (.t 4), []⟩, ⟨1, (some 17), none, .ld (.t 16), []⟩, ⟨2, (some 18), none, .mov (.t 2), []⟩, ⟨3, (some 19), none, .call (.c (.func (.func 27) #[] #[])) [.t 18], [1]⟩, ⟨4, (some 20), none, .mov (.t 3), []⟩, ⟨5, (some 21), none, .call (.c (.func (.func 27) #[] #[])) [.t 20], [1]⟩, ⟨6, (some 22), none, .call (.c (.func (.func 80) #[] #[])) [.t 17, .t 19, .t 21], []⟩, ⟨7, (some 15), none, .mov (.t 22), []⟩, ⟨8, (some 23), none, .ext (.t 15) 0, []⟩, ⟨9, (some 24), none, .ext (.t 15) 1, []⟩, ⟨10, (some 10), none, .mov (.t 23), []⟩, ⟨11, (some 11), none, .mov (.t 24), []⟩]) (.seq (.ops [⟨0, (some 25), none, .mov (.t 10), []⟩, ⟨1, (some 26), none, .mov (.t 11), []⟩, ⟨2, (some 8), none, .mov (.t 25), []⟩, ⟨3, (some 9), none, .mov (.t 26), []⟩]) .ret)) .skip)) (.seq (.dops [⟨0, (some 28), none, .fad 0 (.t 4), []⟩, ⟨1, (some 29), none, .ld (.t 28), []⟩, ⟨2, (some 30), none, .mov (.t 2), []⟩, ⟨3, (some 31), none, .call (.c (.func (.func 29) #[] #[])) [.t 30], [1]⟩, ⟨4, (some 32), none, .mov (.t 3), []⟩, ⟨5, (some 33), none, .call (.c (.func (.func 29) #[] #[])) [.t 32], [1]⟩, ⟨6, (some 34), none, .call (.c (.func (.func 81) #[] #[])) [.t 29, .t 31, .t 33], []⟩, ⟨7, (some 27), none, .mov (.t 34), []⟩, ⟨8, (some 35), none, .ext (.t 27) 0, []⟩, ⟨9, (some 36), none, .ext (.t 27) 1, []⟩, ⟨10, (some 12), none, .mov (.t 35), []⟩, ⟨11, (some 13), none, .mov (.t 36), []⟩]) (.seq (.ops [⟨0, (some 37), none, .mov (.t 12), []⟩, ⟨1, (some 38), none, .call (.c (.func (.func 30) #[] #[])) [.t 37], []⟩, ⟨2, (some 39), none, .mov (.t 13), []⟩, ⟨3, (some 8), none, .mov (.t 38), []⟩, ⟨4, (some 9), none, .mov (.t 39), []⟩]) .ret)))
attribute [irreducible] c_culletlaw04_Rings_interpolate
theorem run_culletlaw04_Rings_interpolate {args : List Value} {w : World} {K : Value → World → Prop} (hn : args.length ≤ 40) (h : WP Tryz.prog c_culletlaw04_Rings_interpolate (endQ [.t 8, .t 9] K) (initT args) w) : CallV Tryz.prog 50 args w K :=
  call_of follows Tryz.func50 (by kernel_rfl) (by kernel_rfl) hn h
end Go.Proofs.YtcdagkcchfibjaaGreat.Fw
namespace Go.Proofs.YtcdagkcchfibjaaGreat.Fw
open Go Go.Fw
theorem culletlaw04_Rings_interpolate_w_spec (w : World) (rb rw s1 s2 : Value) (L1 L2 : List (El 16)) (hb : Ring_b w rb) (hw : Ring_w w rw) (h1 : Sl w s1 L1) (h2 : Sl w s2 L2) (b1 : L1.length ≤ 70368744175616) (b2 : L2.length ≤ 70368744175616) :
    CallV Tryz.prog 50 [.agg #[rb, rw], .bool true, s1, s2] w fun v w' => RowKit.Below w.heap.size w w' ∧ ((L1.length ≤ 1024 ∧ L2.length ≤ 1024 ∧ L2.length = L1.length ∧ (∀ a b, a < (L1.map lo16).length → b < (L1.map lo16).length → (L1.map lo16).getD a 0 = (L1.map lo16).getD b 0 → a = b) ∧ ∃ s m, v = .tuple #[s, .int .i64 0] ∧ Ow w.heap.size w' s (m.map em16) ∧ tr m = m ∧ co m = nw (fun j => (L1.map lo16).getD j 0) (fun j => (L2.map lo16).getD j 0) 0 L1.length ∧ m.length ≤ L1.length) ∨ (∃ s e, v = .tuple #[s, .int .i64 e] ∧ Ow w.heap.size w' s ([] : List (El 16)) ∧ ((L1.length ≤ 1024 ∧ L2.length ≤ 1024 ∧ L2.length ≠ L1.length ∧ e = 6) ∨ (L1.length ≤ 1024 ∧ L2.length ≤ 1024 ∧ L2.length = L1.length ∧ ¬ (∀ a b, a < (L1.map lo16).length → b < (L1.map lo16).length → (L1.map lo16).getD a 0 = (L1.map lo16).getD b 0 → a = b) ∧ e = 41) ∨ (¬ (L1.length ≤ 1024 ∧ L2.length ≤ 1024) ∧ e = 5)))) := by
  refine run_culletlaw04_Rings_interpolate (by simp) ?_
  simp only [c_culletlaw04_Rings_interpolate, WS, List.getElem_cons_zero, List.getElem_cons_succ, Option.isNone_some, Option.isNone_none, List.getD_cons_zero, List.getD_cons_succ, I.at, atL, atO, atP, evp, evs, retV, ↓reduceIte, Nat.reduceEqDiff, reduceCtorEq]
  refine X_box fun b w1 hr hlb hB1 => ?_
  have hr : Row w1 b [rb, rw] := hr
  simp only [WS, List.getElem_cons_zero, List.getElem_cons_succ, Option.isNone_some, Option.isNone_none, List.getD_cons_zero, List.getD_cons_succ, I.at, atL, atO, atP, evp, evs, retV, ↓reduceIte, Nat.reduceEqDiff, reduceCtorEq]
  refine WP_dops ?_
  have hd0 := hr.drew
  have B0 : RowKit.Below w.heap.size w w1.drew := hB1.trans ((bel_drew w1).mono hB1.size)
  simp only [ES, List.mem_cons, List.not_mem_nil, implies_true, forall_const, WS, List.getElem_cons_zero, List.getElem_cons_succ, Option.isNone_some, Option.isNone_none, List.getD_cons_zero, List.getD_cons_succ, I.at, atL, atO, atP, evp, evs, retV, ↓reduceIte, Nat.reduceEqDiff, reduceCtorEq, addr_add0, Nat.add_zero, Nat.zero_add, hd0.Eld (show 1 < [rb, rw].length by simp)]
  refine E_call0 ((culletlaw04_twin_spec w1.drew s1 L1 (h1.up B0) b1).mono ?_)
  rintro a1 v1 ⟨o1, c1⟩
  have B1 : RowKit.Below w.heap.size w v1 := B0.trans (c1.mono B0.size)
  have r1 := hd0.up c1
  have z1 : Fw.sees Tryz.prog (.ld (.c (.pointer (some ⟨b, 1, none⟩)))) v1 rw = True := r1.sees (o := 1) (by simp) Tryz.prog
  simp only [ES, List.mem_cons, List.not_mem_nil, implies_true, forall_const, WS, List.getElem_cons_zero, List.getElem_cons_succ, Option.isNone_some, Option.isNone_none, List.getD_cons_zero, List.getD_cons_succ, I.at, atL, atO, atP, evp, evs, retV, ↓reduceIte, Nat.reduceEqDiff, reduceCtorEq, z1]
  refine E_call0 ((culletlaw04_twin_spec v1 s2 L2 (h2.up B1) b2).mono ?_)
  rintro a2 v2 ⟨o2, c2⟩
  have B2 : RowKit.Below w.heap.size w v2 := B1.trans (c2.mono B1.size)
  have r2 := r1.up c2
  have z2 : Fw.sees Tryz.prog (.ld (.c (.pointer (some ⟨b, 1, none⟩)))) v2 rw = True := r2.sees (o := 1) (by simp) Tryz.prog
  have o1 := o1.up c2
  simp only [ES, List.mem_cons, List.not_mem_nil, implies_true, forall_const, WS, List.getElem_cons_zero, List.getElem_cons_succ, Option.isNone_some, Option.isNone_none, List.getD_cons_zero, List.getD_cons_succ, I.at, atL, atO, atP, evp, evs, retV, ↓reduceIte, Nat.reduceEqDiff, reduceCtorEq, z2]
  refine E_call0 ((polys_Ring_w_Interpolate_spec v2 rw a1 a2 L1 L2 (hw.up B2) o1.sl o2.sl b1 b2).mono ?_)
  simp only [lo16_map]
  rintro v w9 ⟨B9, ⟨g0, g1, g2, g3, s, m, rfl, om, q0, q1, q2⟩ | ⟨g0, g1, g2, rfl⟩ | ⟨g0, g1, g2, g3, rfl⟩ | ⟨hn, rfl⟩⟩
  · simp only [ES, List.mem_cons, List.not_mem_nil, implies_true, forall_const, WS, List.getElem_cons_zero, List.getElem_cons_succ, Option.isNone_some, Option.isNone_none, List.getD_cons_zero, List.getD_cons_succ, I.at, atL, atO, atP, evp, evs, retV, ↓reduceIte, Nat.reduceEqDiff, reduceCtorEq]
    exact ⟨B2.trans (B9.mono B2.size), Or.inl ⟨g0, g1, g2, g3, s, m, rfl, by rw [em16_map]; exact om.mono B2.size, q0, q1, q2⟩⟩
  · simp only [ES, List.mem_cons, List.not_mem_nil, implies_true, forall_const, WS, List.getElem_cons_zero, List.getElem_cons_succ, Option.isNone_some, Option.isNone_none, List.getD_cons_zero, List.getD_cons_succ, I.at, atL, atO, atP, evp, evs, retV, ↓reduceIte, Nat.reduceEqDiff, reduceCtorEq]
    exact ⟨B2.trans (B9.mono B2.size), Or.inr ⟨_, 6, rfl, Ow.nil _ _, Or.inl ⟨g0, g1, g2, rfl⟩⟩⟩
  · simp only [ES, List.mem_cons, List.not_mem_nil, implies_true, forall_const, WS, List.getElem_cons_zero, List.getElem_cons_succ, Option.isNone_some, Option.isNone_none, List.getD_cons_zero, List.getD_cons_succ, I.at, atL, atO, atP, evp, evs, retV, ↓reduceIte, Nat.reduceEqDiff, reduceCtorEq]
    exact ⟨B2.trans (B9.mono B2.size), Or.inr ⟨_, 41, rfl, Ow.nil _ _, Or.inr (Or.inl ⟨g0, g1, g2, g3, rfl⟩)⟩⟩
  · simp only [ES, List.mem_cons, List.not_mem_nil, implies_true, forall_const, WS, List.getElem_cons_zero, List.getElem_cons_succ, Option.isNone_some, Option.isNone_none, List.getD_cons_zero, List.getD_cons_succ, I.at, atL, atO, atP, evp, evs, retV, ↓reduceIte, Nat.reduceEqDiff, reduceCtorEq]
    exact ⟨B2.trans (B9.mono B2.size), Or.inr ⟨_, 5, rfl, Ow.nil _ _, Or.inr (Or.inr ⟨hn, rfl⟩)⟩⟩
theorem culletlaw04_Rings_interpolate_b_spec (w : World) (rb rw s1 s2 : Value) (L1 L2 : List (El 16)) (hb : Ring_b w rb) (hw : Ring_w w rw) (h1 : Sl w s1 L1) (h2 : Sl w s2 L2) (b1 : L1.length ≤ 70368744175616) (b2 : L2.length ≤ 70368744175616) :
    CallV Tryz.prog 50 [.agg #[rb, rw], .bool false, s1, s2] w fun v w' => RowKit.Below w.heap.size w w' ∧ ((L1.length ≤ 1024 ∧ L2.length ≤ 1024 ∧ L2.length = L1.length ∧ (∀ a b, a < (L1.map lo8).length → b < (L1.map lo8).length → (L1.map lo8).getD a 0 = (L1.map lo8).getD b 0 → a = b) ∧ ∃ s m, v = .tuple #[s, .int .i64 0] ∧ Ow w.heap.size w' s (m.map em8) ∧ tr m = m ∧ co m = nw (fun j => (L1.map lo8).getD j 0) (fun j => (L2.map lo8).getD j 0) 0 L1.length ∧ m.length ≤ L1.length) ∨ (∃ s e, v = .tuple #[s, .int .i64 e] ∧ Ow w.heap.size w' s ([] : List (El 16)) ∧ ((L1.length ≤ 1024 ∧ L2.length ≤ 1024 ∧ L2.length ≠ L1.length ∧ e = 6) ∨ (L1.length ≤ 1024 ∧ L2.length ≤ 1024 ∧ L2.length = L1.length ∧ ¬ (∀ a b, a < (L1.map lo8).length → b < (L1.map lo8).length → (L1.map lo8).getD a 0 = (L1.map lo8).getD b 0 → a = b) ∧ e = 41) ∨ (¬ (L1.length ≤ 1024 ∧ L2.length ≤ 1024) ∧ e = 5)))) := by
  refine run_culletlaw04_Rings_interpolate (by simp) ?_
  simp only [c_culletlaw04_Rings_interpolate, WS, List.getElem_cons_zero, List.getElem_cons_succ, Option.isNone_some, Option.isNone_none, List.getD_cons_zero, List.getD_cons_succ, I.at, atL, atO, atP, evp, evs, retV, ↓reduceIte, Nat.reduceEqDiff, reduceCtorEq]
  refine X_box fun b w1 hr hlb hB1 => ?_
  have hr : Row w1 b [rb, rw] := hr
  simp only [WS, List.getElem_cons_zero, List.getElem_cons_succ, Option.isNone_some, Option.isNone_none, List.getD_cons_zero, List.getD_cons_succ, I.at, atL, atO, atP, evp, evs, retV, ↓reduceIte, Nat.reduceEqDiff, reduceCtorEq]
  refine WP_dops ?_
  have hd0 := hr.drew
  have B0 : RowKit.Below w.heap.size w w1.drew := hB1.trans ((bel_drew w1).mono hB1.size)
  simp only [ES, List.mem_cons, List.not_mem_nil, implies_true, forall_const, WS, List.getElem_cons_zero, List.getElem_cons_succ, Option.isNone_some, Option.isNone_none, List.getD_cons_zero, List.getD_cons_succ, I.at, atL, atO, atP, evp, evs, retV, ↓reduceIte, Nat.reduceEqDiff, reduceCtorEq, addr_add0, Nat.add_zero, Nat.zero_add, hd0.Eld (show 0 < [rb, rw].length by simp)]
  refine E_call0 ((culletlaw04_low_spec w1.drew s1 L1 (h1.up B0) b1).mono ?_)
  rintro a1 v1 ⟨o1, c1⟩
  have B1 : RowKit.Below w.heap.size w v1 := B0.trans (c1.mono B0.size)
  have r1 := hd0.up c1
  have z1 : Fw.sees Tryz.prog (.ld (.c (.pointer (some ⟨b, 0, none⟩)))) v1 rb = True := r1.sees (o := 0) (by simp) Tryz.prog
  simp only [ES, List.mem_cons, List.not_mem_nil, implies_true, forall_const, WS, List.getElem_cons_zero, List.getElem_cons_succ, Option.isNone_some, Option.isNone_none, List.getD_cons_zero, List.getD_cons_succ, I.at, atL, atO, atP, evp, evs, retV, ↓reduceIte, Nat.reduceEqDiff, reduceCtorEq, z1]
  refine E_call0 ((culletlaw04_low_spec v1 s2 L2 (h2.up B1) b2).mono ?_)
  rintro a2 v2 ⟨o2, c2⟩
  have B2 : RowKit.Below w.heap.size w v2 := B1.trans (c2.mono B1.size)
  have r2 := r1.up c2
  have z2 : Fw.sees Tryz.prog (.ld (.c (.pointer (some ⟨b, 0, none⟩)))) v2 rb = True := r2.sees (o := 0) (by simp) Tryz.prog
  have o1 := o1.up c2
  simp only [ES, List.mem_cons, List.not_mem_nil, implies_true, forall_const, WS, List.getElem_cons_zero, List.getElem_cons_succ, Option.isNone_some, Option.isNone_none, List.getD_cons_zero, List.getD_cons_succ, I.at, atL, atO, atP, evp, evs, retV, ↓reduceIte, Nat.reduceEqDiff, reduceCtorEq, z2]
  refine E_call0 ((polys_Ring_b_Interpolate_spec v2 rb a1 a2 (L1.map lo8) (L2.map lo8) (hb.up B2) o1.sl o2.sl (by rw [List.length_map]; exact b1) (by rw [List.length_map]; exact b2)).mono ?_)
  have m1 : (L1.map lo8).length = L1.length := List.length_map ..
  have m2 : (L2.map lo8).length = L2.length := List.length_map ..
  rintro v w9 ⟨B9, ⟨g0, g1, g2, g3, s, m, rfl, om, q0, q1, q2⟩ | ⟨g0, g1, g2, rfl⟩ | ⟨g0, g1, g2, g3, rfl⟩ | ⟨hn, rfl⟩⟩
  · simp only [ES, List.mem_cons, List.not_mem_nil, implies_true, forall_const, WS, List.getElem_cons_zero, List.getElem_cons_succ, Option.isNone_some, Option.isNone_none, List.getD_cons_zero, List.getD_cons_succ, I.at, atL, atO, atP, evp, evs, retV, ↓reduceIte, Nat.reduceEqDiff, reduceCtorEq]
    refine X_call0 ((culletlaw04_up_spec w9 _ m om.sl (by omega)).mono ?_)
    rintro v2 w10 ⟨o10, B10⟩
    simp only [WS, List.getElem_cons_zero, List.getElem_cons_succ, Option.isNone_some, Option.isNone_none, List.getD_cons_zero, List.getD_cons_succ, I.at, atL, atO, atP, evp, evs, retV, ↓reduceIte, Nat.reduceEqDiff, reduceCtorEq]
    exact ⟨(B2.trans (B9.mono B2.size)).trans (B10.mono (Nat.le_trans B2.size B9.size)), Or.inl ⟨by omega, by omega, by omega, g3, v2, m, rfl, o10.mono (Nat.le_trans B2.size B9.size), q0, by rw [q1, m1], by omega⟩⟩
  · simp only [ES, List.mem_cons, List.not_mem_nil, implies_true, forall_const, WS, List.getElem_cons_zero, List.getElem_cons_succ, Option.isNone_some, Option.isNone_none, List.getD_cons_zero, List.getD_cons_succ, I.at, atL, atO, atP, evp, evs, retV, ↓reduceIte, Nat.reduceEqDiff, reduceCtorEq]
    refine X_call0 ((culletlaw04_up_spec w9 _ ([] : List (El 8)) (Sl.nil w9) (by simp)).mono ?_)
    rintro v2 w10 ⟨o10, B10⟩
    simp only [WS, List.getElem_cons_zero, List.getElem_cons_succ, Option.isNone_some, Option.isNone_none, List.getD_cons_zero, List.getD_cons_succ, I.at, atL, atO, atP, evp, evs, retV, ↓reduceIte, Nat.reduceEqDiff, reduceCtorEq]
    exact ⟨(B2.trans (B9.mono B2.size)).trans (B10.mono (Nat.le_trans B2.size B9.size)), Or.inr ⟨v2, 6, rfl, o10.mono (Nat.le_trans B2.size B9.size), Or.inl ⟨by omega, by omega, by omega, rfl⟩⟩⟩
  · simp only [ES, List.mem_cons, List.not_mem_nil, implies_true, forall_const, WS, List.getElem_cons_zero, List.getElem_cons_succ, Option.isNone_some, Option.isNone_none, List.getD_cons_zero, List.getD_cons_succ, I.at, atL, atO, atP, evp, evs, retV, ↓reduceIte, Nat.reduceEqDiff, reduceCtorEq]
    refine X_call0 ((culletlaw04_up_spec w9 _ ([] : List (El 8)) (Sl.nil w9) (by simp)).mono ?_)
    rintro v2 w10 ⟨o10, B10⟩
    simp only [WS, List.getElem_cons_zero, List.getElem_cons_succ, Option.isNone_some, Option.isNone_none, List.getD_cons_zero, List.getD_cons_succ, I.at, atL, atO, atP, evp, evs, retV, ↓reduceIte, Nat.reduceEqDiff, reduceCtorEq]
    exact ⟨(B2.trans (B9.mono B2.size)).trans (B10.mono (Nat.le_trans B2.size B9.size)), Or.inr ⟨v2, 41, rfl, o10.mono (Nat.le_trans B2.size B9.size), Or.inr (Or.inl ⟨by omega, by omega, by omega, g3, rfl⟩)⟩⟩
  · simp only [ES, List.mem_cons, List.not_mem_nil, implies_true, forall_const, WS, List.getElem_cons_zero, List.getElem_cons_succ, Option.isNone_some, Option.isNone_none, List.getD_cons_zero, List.getD_cons_succ, I.at, atL, atO, atP, evp, evs, retV, ↓reduceIte, Nat.reduceEqDiff, reduceCtorEq]
    refine X_call0 ((culletlaw04_up_spec w9 _ ([] : List (El 8)) (Sl.nil w9) (by simp)).mono ?_)
    rintro v2 w10 ⟨o10, B10⟩
    simp only [WS, List.getElem_cons_zero, List.getElem_cons_succ, Option.isNone_some, Option.isNone_none, List.getD_cons_zero, List.getD_cons_succ, I.at, atL, atO, atP, evp, evs, retV, ↓reduceIte, Nat.reduceEqDiff, reduceCtorEq]
    exact ⟨(B2.trans (B9.mono B2.size)).trans (B10.mono (Nat.le_trans B2.size B9.size)), Or.inr ⟨v2, 5, rfl, o10.mono (Nat.le_trans B2.size B9.size), Or.inr (Or.inr ⟨by omega, rfl⟩)⟩⟩
end Go.Proofs.YtcdagkcchfibjaaGreat.Fw

set_option linter.unusedVariables false
set_option linter.unusedSimpArgs false
set_option maxRecDepth 100000
set_option maxHeartbeats 1000000
namespace Go.Proofs.YtcdagkcchfibjaaGreat.Fw
open Go Go.Fw Go.Proofs
attribute [local irreducible] stepI
def c_culletlaw04_points : C := .seq (.ops [⟨0, (some 4), none, .box 28 (.t 0), []⟩, ⟨1, (some 5), none, .box 34 (.t 1), []⟩, ⟨2, (some 8), none, .mov (.c (.bool false)), []⟩]) (.seq (.seq (.ops [⟨0, (some 17), none, .fad 0 (.t 5), []⟩, ⟨1, (some 18), none, .ld (.t 17), []⟩, ⟨2, (some 19), none, .bin .eql (.t 18) (.c (.int .i64 8)), []⟩]) (.ite (.t 19) (.seq (.ops [⟨0, (some 21), none, .ldn 2 (.t 4), []⟩, ⟨1, (some 22), none, .fad 1 (.t 5), []⟩, ⟨2, (some 23), none, .ld (.t 22), []⟩, ⟨3, (some 24), none, .mov (.t 2), []⟩, ⟨4, (some 25), none, .call (.c (.func (.func 48) #[] #[])) [.t 21, .t 23, .t 24], []⟩, ⟨5, (some 20), none, .mov (.t 25), []⟩, ⟨6, (some 26), none, .ext (.t 20) 0, []⟩, ⟨7, (some 27), none, .ext (.t 20) 1, []⟩, ⟨8, (some 9), none, .mov (.t 26), []⟩, ⟨9, (some 10), none, .mov (.t 27), []⟩]) (.seq (.ops [⟨0, (some 29), none, .fad 1 (.t 5), []⟩, ⟨1, (some 30), none, .ld (.t 29), []⟩, ⟨2, (some 31), none, .mov (.t 2), []⟩, ⟨3, (some 32), none, .call (.c (.func (.func 49) #[] #[])) [.t 30, .t 31], []⟩, ⟨4, (some 28), none, .mov (.t 32), []⟩, ⟨5, (some 33), none, .ext (.t 28) 0, []⟩, ⟨6, (some 34), none, .ext (.t 28) 1, []⟩, ⟨7, (some 11), none, .mov (.t 33), []⟩, ⟨8, (some 12), none, .mov (.t 34), []⟩]) (.seq (.ops [⟨0, (some 35), none, .mov (.t 10), []⟩, ⟨1, (some 36), none, .mov (.t 12), []⟩, ⟨2, (some 37), none, .bin .eql (.t 35) (.t 36), []⟩, ⟨3, (some 38), none, .mov (.t 37), []⟩, ⟨4, (some 39), (some (38, true)), .mov (.t 9), []⟩, ⟨5, (some 40), (some (38, true)), .mov (.t 11), []⟩, ⟨6, (some 41), (some (38, true)), .call (.c (.func (.func 14) #[] #[])) [.t 39, .t 40], []⟩, ⟨7, (some 42), none, .pick (.t 38) (.t 41) (.c (.bool false)), []⟩, ⟨8, (some 8), none, .mov (.t 42), []⟩]) .ret))) .skip)) (.seq (.ops [⟨0, (some 44), none, .ldn 2 (.t 4), []⟩, ⟨1, (some 45), none, .fad 1 (.t 5), []⟩, ⟨2, (some 46), none, .ld (.t 45), []⟩, ⟨3, (some 47), none, .mov (.t 2), []⟩, ⟨4, (some 48), none, .mov (.t 3), []⟩, ⟨5, (some 49), none, .call (.c (.func (.func 50) #[] #[])) [.t 44, .t 46, .t 47, .t 48], []⟩, ⟨6, (some 43), none, .mov (.t 49), []⟩, ⟨7, (some 50), none, .ext (.t 43) 0, []⟩, ⟨8, (some 51), none, .ext (.t 43) 1, []⟩, ⟨9, (some 13), none, .mov (.t 50), []⟩, ⟨10, (some 14), none, .mov (.t 51), []⟩]) (.seq (.ops [⟨0, (some 53), none, .fad 1 (.t 5), []⟩, ⟨1, (some 54), none, .ld (.t 53), []⟩, ⟨2, (some 55), none, .mov (.t 2), []⟩, ⟨3, (some 56), none, .mov (.t 3), []⟩, ⟨4, (some 57), none, .call (.c (.func (.func 51) #[] #[])) [.t 54, .t 55, .t 56], []⟩, ⟨5, (some 52), none, .mov (.t 57), []⟩, ⟨6, (some 58), none, .ext (.t 52) 0, []⟩, ⟨7, (some 59), none, .ext (.t 52) 1, []⟩, ⟨8, (some 15), none, .mov (.t 58), []⟩, ⟨9, (some 16), none, .mov (.t 59), []⟩]) (.seq (.ops [⟨0, (some 60), none, .mov (.t 14), []⟩, ⟨1, (some 61), none, .mov (.t 16), []⟩, ⟨2, (some 62), none, .bin .eql (.t 60) (.t 61), []⟩, ⟨3, (some 63), none, .mov (.t 62), []⟩, ⟨4, (some 64), (some (63, true)), .mov (.t 13), []⟩, ⟨5, (some 65), (some (63, true)), .mov (.t 15), []⟩, ⟨6, (some 66), (some (63, true)), .call (.c (.func (.func 14) #[] #[])) [.t 64, .t 65], []⟩, ⟨7, (some 67), none, .pick (.t 63) (.t 66) (.c (.bool false)), []⟩, ⟨8, (some 8), none, .mov (.t 67), []⟩]) .ret))))
attribute [irreducible] c_culletlaw04_points
theorem run_culletlaw04_points {args : List Value} {w : World} {K : Value → World → Prop} (hn : args.length ≤ 68) (h : WP Tryz.prog c_culletlaw04_points (endQ [.t 8] K) (initT args) w) : CallV Tryz.prog 19 args w K :=
  call_of follows Tryz.func19 (by kernel_rfl) (by kernel_rfl) hn h
end Go.Proofs.YtcdagkcchfibjaaGreat.Fw
namespace Go.Proofs.YtcdagkcchfibjaaGreat.Fw
open Go Go.Fw
theorem culletlaw04_points8_w_spec (w : World) (rb rw F G s1 s2 : Value) (L1 L2 : List (El 16)) (x : El 16) (n : Int) (hb : Ring_b w rb) (hw : Ring_w w rw) (h1 : Sl w s1 (L1.map em16)) (h2 : Sl w s2 (L2.map em16)) (b1 : L1.length ≤ 70368744175616) (b2 : L2.length ≤ 70368744175616) :
    CallV Tryz.prog 19 [.agg #[rb, rw], .agg #[.int .i64 8, .bool true, F, G, .int .u16 (x.v.toNat : Int), .int .i64 n], s1, s2] w fun v w' => v = .bool true ∧ RowKit.Below w.heap.size w w' := by
  have m1 : (L1.map em16).length = L1.length := List.length_map ..
  refine run_culletlaw04_points (by simp) ?_
  simp only [c_culletlaw04_points, WS, List.getElem_cons_zero, List.getElem_cons_succ, Option.isNone_some, Option.isNone_none, List.getD_cons_zero, List.getD_cons_succ, I.at, atL, atO, atP, evp, evs, retV, ↓reduceIte, Nat.reduceEqDiff, reduceCtorEq]
  refine X_box fun b w1 hr hlb hB => ?_
  have hr : Row w1 b [rb, rw] := hr
  have B := hB
  have hb := hb.up hB
  have hw := hw.up hB
  have h1 := h1.up hB
  have h2 := h2.up hB
  clear hB hlb
  simp (maxSteps := 1000000) (disch := omega) only [WS, List.getElem_cons_zero, List.getElem_cons_succ, Option.isNone_some, Option.isNone_none, List.getD_cons_zero, List.getD_cons_succ, I.at, atL, atO, atP, evp, evs, retV, ↓reduceIte, Nat.reduceEqDiff, reduceCtorEq, AS]
  refine X_box fun bo w2 hro hlb hB => ?_
  have hro : Row w2 bo [.int .i64 8, .bool true, F, G, .int .u16 (x.v.toNat : Int), .int .i64 n] := hro
  have hb := hb.up hB
  have hw := hw.up hB
  have h1 := h1.up hB
  have h2 := h2.up hB
  have hr := hr.up hB
  have B := B.trans (hB.mono B.size)
  clear hB
  clear hlb
  simp (maxSteps := 1000000) (disch := omega) only [WS, List.getElem_cons_zero, List.getElem_cons_succ, Option.isNone_some, Option.isNone_none, List.getD_cons_zero, List.getD_cons_succ, I.at, atL, atO, atP, evp, evs, retV, ↓reduceIte, Nat.reduceEqDiff, reduceCtorEq, AS, row6_0 hro, row6_1 hro, hr.Xldn (n := 2) rfl, show decide ((8 : Int) = 8) = true from rfl]
  refine X_call0 ((culletlaw04_Rings_vanishing_w_spec w2 rb rw s1 _ hb hw h1 (by omega)).mono ?_)
  rw [lo16_map_em16]
  rintro _ w3 ⟨hB, ⟨q1, s, m, rfl, om, lm, cm⟩ | ⟨hn, s, rfl, om⟩⟩
  · have om := om.sl
    have h1 := h1.up hB
    have h2 := h2.up hB
    have hro := hro.up hB
    have B := B.trans (hB.mono B.size)
    clear hB
    simp (maxSteps := 1000000) (disch := omega) only [WS, List.getElem_cons_zero, List.getElem_cons_succ, Option.isNone_some, Option.isNone_none, List.getD_cons_zero, List.getD_cons_succ, I.at, atL, atO, atP, evp, evs, retV, ↓reduceIte, Nat.reduceEqDiff, reduceCtorEq, AS, row6_1 hro]
    refine X_call0 ((culletref04_Vanishing_w_spec w3 s1 _ h1 (by omega)).mono ?_)
    rintro _ w4 ⟨hB, ⟨-, s', m', rfl, om', lm', cm'⟩ | ⟨hn, -⟩⟩
    · have om' := om'.sl
      have om := om.up hB
      have B := B.trans (hB.mono B.size)
      clear hB
      have he : m = m' := co_ext (lm.trans lm'.symm) (cm.trans cm'.symm)
      subst he
      have hlm : (m.map em16).length = m.length := List.length_map ..
      simp (maxSteps := 1000000) (disch := omega) only [WS, List.getElem_cons_zero, List.getElem_cons_succ, Option.isNone_some, Option.isNone_none, List.getD_cons_zero, List.getD_cons_succ, I.at, atL, atO, atP, evp, evs, retV, ↓reduceIte, Nat.reduceEqDiff, reduceCtorEq, AS, show decide ((0 : Int) = 0) = true from rfl]
      refine X_call0 ((culletlaw04_same_spec w4 s s' _ _ om om' (by omega) (by omega)).mono ?_)
      rintro _ w5 ⟨rfl, hk⟩
      have hB := hk.1
      have B := B.trans (hB.mono B.size)
      clear hB
      rw [decide_eq_true rfl]
      simp (maxSteps := 1000000) (disch := omega) only [WS, List.getElem_cons_zero, List.getElem_cons_succ, Option.isNone_some, Option.isNone_none, List.getD_cons_zero, List.getD_cons_succ, I.at, atL, atO, atP, evp, evs, retV, ↓reduceIte, Nat.reduceEqDiff, reduceCtorEq, AS]
      exact B
    · exact absurd (by omega) hn
  · have om := om.sl
    have h1 := h1.up hB
    have h2 := h2.up hB
    have hro := hro.up hB
    have B := B.trans (hB.mono B.size)
    clear hB
    simp (maxSteps := 1000000) (disch := omega) only [WS, List.getElem_cons_zero, List.getElem_cons_succ, Option.isNone_some, Option.isNone_none, List.getD_cons_zero, List.getD_cons_succ, I.at, atL, atO, atP, evp, evs, retV, ↓reduceIte, Nat.reduceEqDiff, reduceCtorEq, AS, row6_1 hro]
    refine X_call0 ((culletref04_Vanishing_w_spec w3 s1 _ h1 (by omega)).mono ?_)
    rintro _ w4 ⟨hB, ⟨q1, -⟩ | ⟨-, rfl⟩⟩
    · exact absurd (by omega) hn
    · have om := om.up hB
      have B := B.trans (hB.mono B.size)
      clear hB
      simp (maxSteps := 1000000) (disch := omega) only [WS, List.getElem_cons_zero, List.getElem_cons_succ, Option.isNone_some, Option.isNone_none, List.getD_cons_zero, List.getD_cons_succ, I.at, atL, atO, atP, evp, evs, retV, ↓reduceIte, Nat.reduceEqDiff, reduceCtorEq, AS, show decide ((5 : Int) = 5) = true from rfl]
      refine X_call0 ((culletlaw04_same_spec w4 s _ _ _ om (Sl.nil (α := El 16) w4) (by simp) (by simp)).mono ?_)
      rintro _ w5 ⟨rfl, hk⟩
      have hB := hk.1
      have B := B.trans (hB.mono B.size)
      clear hB
      rw [decide_eq_true rfl]
      simp (maxSteps := 1000000) (disch := omega) only [WS, List.getElem_cons_zero, List.getElem_cons_succ, Option.isNone_some, Option.isNone_none, List.getD_cons_zero, List.getD_cons_succ, I.at, atL, atO, atP, evp, evs, retV, ↓reduceIte, Nat.reduceEqDiff, reduceCtorEq, AS]
      exact B
theorem culletlaw04_points9_w_spec (w : World) (rb rw F G s1 s2 : Value) (L1 L2 : List (El 16)) (x : El 16) (n : Int) (hb : Ring_b w rb) (hw : Ring_w w rw) (h1 : Sl w s1 (L1.map em16)) (h2 : Sl w s2 (L2.map em16)) (b1 : L1.length ≤ 70368744175616) (b2 : L2.length ≤ 70368744175616) :
    CallV Tryz.prog 19 [.agg #[rb, rw], .agg #[.int .i64 9, .bool true, F, G, .int .u16 (x.v.toNat : Int), .int .i64 n], s1, s2] w fun v w' => v = .bool true ∧ RowKit.Below w.heap.size w w' := by
  have m1 : (L1.map em16).length = L1.length := List.length_map ..
  have m2 : (L2.map em16).length = L2.length := List.length_map ..
  have dt : ∀ e : Int, decide (e = e) = true := fun e => decide_eq_true rfl
  refine run_culletlaw04_points (by simp) ?_
  simp only [c_culletlaw04_points, WS, List.getElem_cons_zero, List.getElem_cons_succ, Option.isNone_some, Option.isNone_none, List.getD_cons_zero, List.getD_cons_succ, I.at, atL, atO, atP, evp, evs, retV, ↓reduceIte, Nat.reduceEqDiff, reduceCtorEq]
  refine X_box fun b w1 hr hlb hB => ?_
  have hr : Row w1 b [rb, rw] := hr
  have B := hB
  have hb := hb.up hB
  have hw := hw.up hB
  have h1 := h1.up hB
  have h2 := h2.up hB
  clear hB hlb
  simp (maxSteps := 1000000) (disch := omega) only [WS, List.getElem_cons_zero, List.getElem_cons_succ, Option.isNone_some, Option.isNone_none, List.getD_cons_zero, List.getD_cons_succ, I.at, atL, atO, atP, evp, evs, retV, ↓reduceIte, Nat.reduceEqDiff, reduceCtorEq, AS]
  refine X_box fun bo w2 hro hlb hB => ?_
  have hro : Row w2 bo [.int .i64 9, .bool true, F, G, .int .u16 (x.v.toNat : Int), .int .i64 n] := hro
  have hb := hb.up hB
  have hw := hw.up hB
  have h1 := h1.up hB
  have h2 := h2.up hB
  have hr := hr.up hB
  have B := B.trans (hB.mono B.size)
  clear hB
  clear hlb
  simp (maxSteps := 1000000) (disch := omega) only [WS, List.getElem_cons_zero, List.getElem_cons_succ, Option.isNone_some, Option.isNone_none, List.getD_cons_zero, List.getD_cons_succ, I.at, atL, atO, atP, evp, evs, retV, ↓reduceIte, Nat.reduceEqDiff, reduceCtorEq, AS, row6_0 hro, row6_1 hro, hr.Xldn (n := 2) rfl, show decide ((9 : Int) = 8) = false from rfl]
  refine X_call0 ((culletlaw04_Rings_interpolate_w_spec w2 rb rw s1 s2 _ _ hb hw h1 h2 (by omega) (by omega)).mono ?_)
  rw [lo16_map_em16, lo16_map_em16]
  rintro _ w3 ⟨hB, ⟨p1, p2, p3, p4, s, m, rfl, om, tm, cm, lm⟩ | ⟨s, e, rfl, om, hcase⟩⟩
  · have om := om.sl
    rw [m1] at p1 p3 lm cm
    rw [m2] at p2 p3
    have h1 := h1.up hB
    have h2 := h2.up hB
    have hro := hro.up hB
    have B := B.trans (hB.mono B.size)
    clear hB
    simp (maxSteps := 1000000) (disch := omega) only [WS, List.getElem_cons_zero, List.getElem_cons_succ, Option.isNone_some, Option.isNone_none, List.getD_cons_zero, List.getD_cons_succ, I.at, atL, atO, atP, evp, evs, retV, ↓reduceIte, Nat.reduceEqDiff, reduceCtorEq, AS, row6_1 hro]
    refine X_call0 ((culletref04_Interpolate_w_spec w3 s1 s2 _ _ h1 h2 (by omega) (by omega)).mono ?_)
    rintro _ w4 ⟨hB, ⟨-, -, -, -, s', m', rfl, om', tm', lm', hev⟩ | ⟨-, -, hbad, -⟩ | ⟨-, -, -, hbad, -⟩ | ⟨hbad, -⟩⟩
    · have om' := om'.sl
      have om := om.up hB
      have B := B.trans (hB.mono B.size)
      clear hB
      have he : m = m' := int_uniq tm tm' cm lm' hev p4
      subst he
      have hlm : (m.map em16).length = m.length := List.length_map ..
      simp (maxSteps := 1000000) (disch := omega) only [WS, List.getElem_cons_zero, List.getElem_cons_succ, Option.isNone_some, Option.isNone_none, List.getD_cons_zero, List.getD_cons_succ, I.at, atL, atO, atP, evp, evs, retV, ↓reduceIte, Nat.reduceEqDiff, reduceCtorEq, AS, dt]
      refine X_call0 ((culletlaw04_same_spec w4 s s' _ _ om om' (by omega) (by omega)).mono ?_)
      rintro _ w5 ⟨rfl, hk⟩
      have hB := hk.1
      have B := B.trans (hB.mono B.size)
      clear hB
      rw [decide_eq_true rfl]
      simp (maxSteps := 1000000) (disch := omega) only [WS, List.getElem_cons_zero, List.getElem_cons_succ, Option.isNone_some, Option.isNone_none, List.getD_cons_zero, List.getD_cons_succ, I.at, atL, atO, atP, evp, evs, retV, ↓reduceIte, Nat.reduceEqDiff, reduceCtorEq, AS]
      exact B
    · exact absurd p3 hbad
    · exact absurd p4 hbad
    · exact absurd ⟨p1, p2⟩ hbad
  · have om := om.sl
    rw [m1, m2] at hcase
    have h1 := h1.up hB
    have h2 := h2.up hB
    have hro := hro.up hB
    have B := B.trans (hB.mono B.size)
    clear hB
    simp (maxSteps := 1000000) (disch := omega) only [WS, List.getElem_cons_zero, List.getElem_cons_succ, Option.isNone_some, Option.isNone_none, List.getD_cons_zero, List.getD_cons_succ, I.at, atL, atO, atP, evp, evs, retV, ↓reduceIte, Nat.reduceEqDiff, reduceCtorEq, AS, row6_1 hro]
    refine X_call0 ((culletref04_Interpolate_w_spec w3 s1 s2 _ _ h1 h2 (by omega) (by omega)).mono ?_)
    intro v4 w4 hv4
    have key : RowKit.Below w3.heap.size w3 w4 ∧ v4 = .tuple #[.slice none 0 0, .int .i64 e] := by
      obtain ⟨hB, ⟨c1, c2, c3, c4, -⟩ | ⟨c1, c2, c3, rfl⟩ | ⟨c1, c2, c3, c4, rfl⟩ | ⟨c1, rfl⟩⟩ := hv4 <;> rcases hcase with ⟨d1, d2, d3, rfl⟩ | ⟨d1, d2, d3, d4, rfl⟩ | ⟨d1, rfl⟩ <;> first | exact ⟨hB, rfl⟩ | exact absurd c3 d3 | exact absurd c4 d4 | exact absurd ⟨c1, c2⟩ d1 | exact absurd d3 c3 | exact absurd ⟨d1, d2⟩ c1
    obtain ⟨hB, rfl⟩ := key
    have om := om.up hB
    have B := B.trans (hB.mono B.size)
    clear hB
    simp (maxSteps := 1000000) (disch := omega) only [WS, List.getElem_cons_zero, List.getElem_cons_succ, Option.isNone_some, Option.isNone_none, List.getD_cons_zero, List.getD_cons_succ, I.at, atL, atO, atP, evp, evs, retV, ↓reduceIte, Nat.reduceEqDiff, reduceCtorEq, AS, dt]
    refine X_call0 ((culletlaw04_same_spec w4 s _ _ _ om (Sl.nil (α := El 16) w4) (by simp) (by simp)).mono ?_)
    rintro _ w5 ⟨rfl, hk⟩
    have hB := hk.1
    have B := B.trans (hB.mono B.size)
    clear hB
    rw [decide_eq_true rfl]
    simp (maxSteps := 1000000) (disch := omega) only [WS, List.getElem_cons_zero, List.getElem_cons_succ, Option.isNone_some, Option.isNone_none, List.getD_cons_zero, List.getD_cons_succ, I.at, atL, atO, atP, evp, evs, retV, ↓reduceIte, Nat.reduceEqDiff, reduceCtorEq, AS]
    exact B
end Go.Proofs.YtcdagkcchfibjaaGreat.Fw

namespace Go.Proofs.YtcdagkcchfibjaaGreat.Fw
open Go Go.Fw
theorem culletlaw04_points8_b_spec (w : World) (rb rw F G s1 s2 : Value) (L1 L2 : List (El 8)) (x : El 16) (n : Int) (hb : Ring_b w rb) (hw : Ring_w w rw) (h1 : Sl w s1 (L1.map em8)) (h2 : Sl w s2 (L2.map em8)) (b1 : L1.length ≤ 70368744175616) (b2 : L2.length ≤ 70368744175616) :
    CallV Tryz.prog 19 [.agg #[rb, rw], .agg #[.int .i64 8, .bool false, F, G, .int .u16 (x.v.toNat : Int), .int .i64 n], s1, s2] w fun v w' => v = .bool true ∧ RowKit.Below w.heap.size w w' := by
  have m1 : (L1.map em8).length = L1.length := List.length_map ..
  refine run_culletlaw04_points (by simp) ?_
  simp only [c_culletlaw04_points, WS, List.getElem_cons_zero, List.getElem_cons_succ, Option.isNone_some, Option.isNone_none, List.getD_cons_zero, List.getD_cons_succ, I.at, atL, atO, atP, evp, evs, retV, ↓reduceIte, Nat.reduceEqDiff, reduceCtorEq]
  refine X_box fun b w1 hr hlb hB => ?_
  have hr : Row w1 b [rb, rw] := hr
  have B := hB
  have hb := hb.up hB
  have hw := hw.up hB
  have h1 := h1.up hB
  have h2 := h2.up hB
  clear hB hlb
  simp (maxSteps := 1000000) (disch := omega) only [WS, List.getElem_cons_zero, List.getElem_cons_succ, Option.isNone_some, Option.isNone_none, List.getD_cons_zero, List.getD_cons_succ, I.at, atL, atO, atP, evp, evs, retV, ↓reduceIte, Nat.reduceEqDiff, reduceCtorEq, AS]
  refine X_box fun bo w2 hro hlb hB => ?_
  have hro : Row w2 bo [.int .i64 8, .bool false, F, G, .int .u16 (x.v.toNat : Int), .int .i64 n] := hro
  have hb := hb.up hB
  have hw := hw.up hB
  have h1 := h1.up hB
  have h2 := h2.up hB
  have hr := hr.up hB
  have B := B.trans (hB.mono B.size)
  clear hB
  clear hlb
  simp (maxSteps := 1000000) (disch := omega) only [WS, List.getElem_cons_zero, List.getElem_cons_succ, Option.isNone_some, Option.isNone_none, List.getD_cons_zero, List.getD_cons_succ, I.at, atL, atO, atP, evp, evs, retV, ↓reduceIte, Nat.reduceEqDiff, reduceCtorEq, AS, row6_0 hro, row6_1 hro, hr.Xldn (n := 2) rfl, show decide ((8 : Int) = 8) = true from rfl]
  refine X_call0 ((culletlaw04_Rings_vanishing_b_spec w2 rb rw s1 _ hb hw h1 (by omega)).mono ?_)
  rw [lo8_map_em8]
  rintro _ w3 ⟨hB, ⟨q1, s, m, rfl, om, lm, cm⟩ | ⟨hn, s, rfl, om⟩⟩
  · have om := om.sl
    have h1 := h1.up hB
    have h2 := h2.up hB
    have hro := hro.up hB
    have B := B.trans (hB.mono B.size)
    clear hB
    simp (maxSteps := 1000000) (disch := omega) only [WS, List.getElem_cons_zero, List.getElem_cons_succ, Option.isNone_some, Option.isNone_none, List.getD_cons_zero, List.getD_cons_succ, I.at, atL, atO, atP, evp, evs, retV, ↓reduceIte, Nat.reduceEqDiff, reduceCtorEq, AS, row6_1 hro]
    refine X_call0 ((culletref04_Vanishing_b_spec w3 s1 _ h1 (by omega)).mono ?_)
    rintro _ w4 ⟨hB, ⟨-, s', m', rfl, om', lm', cm'⟩ | ⟨hn, -⟩⟩
    · have om' := om'.sl
      have om := om.up hB
      have B := B.trans (hB.mono B.size)
      clear hB
      have he : m = m' := co_ext (lm.trans lm'.symm) (cm.trans cm'.symm)
      subst he
      have hlm : (m.map em8).length = m.length := List.length_map ..
      simp (maxSteps := 1000000) (disch := omega) only [WS, List.getElem_cons_zero, List.getElem_cons_succ, Option.isNone_some, Option.isNone_none, List.getD_cons_zero, List.getD_cons_succ, I.at, atL, atO, atP, evp, evs, retV, ↓reduceIte, Nat.reduceEqDiff, reduceCtorEq, AS, show decide ((0 : Int) = 0) = true from rfl]
      refine X_call0 ((culletlaw04_same_spec w4 s s' _ _ om om' (by omega) (by omega)).mono ?_)
      rintro _ w5 ⟨rfl, hk⟩
      have hB := hk.1
      have B := B.trans (hB.mono B.size)
      clear hB
      rw [decide_eq_true rfl]
      simp (maxSteps := 1000000) (disch := omega) only [WS, List.getElem_cons_zero, List.getElem_cons_succ, Option.isNone_some, Option.isNone_none, List.getD_cons_zero, List.getD_cons_succ, I.at, atL, atO, atP, evp, evs, retV, ↓reduceIte, Nat.reduceEqDiff, reduceCtorEq, AS]
      exact B
    · exact absurd (by omega) hn
  · have om := om.sl
    have h1 := h1.up hB
    have h2 := h2.up hB
    have hro := hro.up hB
    have B := B.trans (hB.mono B.size)
    clear hB
    simp (maxSteps := 1000000) (disch := omega) only [WS, List.getElem_cons_zero, List.getElem_cons_succ, Option.isNone_some, Option.isNone_none, List.getD_cons_zero, List.getD_cons_succ, I.at, atL, atO, atP, evp, evs, retV, ↓reduceIte, Nat.reduceEqDiff, reduceCtorEq, AS, row6_1 hro]
    refine X_call0 ((culletref04_Vanishing_b_spec w3 s1 _ h1 (by omega)).mono ?_)
    rintro _ w4 ⟨hB, ⟨q1, -⟩ | ⟨-, rfl⟩⟩
    · exact absurd (by omega) hn
    · have om := om.up hB
      have B := B.trans (hB.mono B.size)
      clear hB
      simp (maxSteps := 1000000) (disch := omega) only [WS, List.getElem_cons_zero, List.getElem_cons_succ, Option.isNone_some, Option.isNone_none, List.getD_cons_zero, List.getD_cons_succ, I.at, atL, atO, atP, evp, evs, retV, ↓reduceIte, Nat.reduceEqDiff, reduceCtorEq, AS, show decide ((5 : Int) = 5) = true from rfl]
      refine X_call0 ((culletlaw04_same_spec w4 s _ _ _ om (Sl.nil (α := El 16) w4) (by simp) (by simp)).mono ?_)
      rintro _ w5 ⟨rfl, hk⟩
      have hB := hk.1
      have B := B.trans (hB.mono B.size)
      clear hB
      rw [decide_eq_true rfl]
      simp (maxSteps := 1000000) (disch := omega) only [WS, List.getElem_cons_zero, List.getElem_cons_succ, Option.isNone_some, Option.isNone_none, List.getD_cons_zero, List.getD_cons_succ, I.at, atL, atO, atP, evp, evs, retV, ↓reduceIte, Nat.reduceEqDiff, reduceCtorEq, AS]
      exact B
theorem culletlaw04_points9_b_spec (w : World) (rb rw F G s1 s2 : Value) (L1 L2 : List (El 8)) (x : El 16) (n : Int) (hb : Ring_b w rb) (hw : Ring_w w rw) (h1 : Sl w s1 (L1.map em8)) (h2 : Sl w s2 (L2.map em8)) (b1 : L1.length ≤ 70368744175616) (b2 : L2.length ≤ 70368744175616) :
    CallV Tryz.prog 19 [.agg #[rb, rw], .agg #[.int .i64 9, .bool false, F, G, .int .u16 (x.v.toNat : Int), .int .i64 n], s1, s2] w fun v w' => v = .bool true ∧ RowKit.Below w.heap.size w w' := by
  have m1 : (L1.map em8).length = L1.length := List.length_map ..
  have m2 : (L2.map em8).length = L2.length := List.length_map ..
  have dt : ∀ e : Int, decide (e = e) = true := fun e => decide_eq_true rfl
  refine run_culletlaw04_points (by simp) ?_
  simp only [c_culletlaw04_points, WS, List.getElem_cons_zero, List.getElem_cons_succ, Option.isNone_some, Option.isNone_none, List.getD_cons_zero, List.getD_cons_succ, I.at, atL, atO, atP, evp, evs, retV, ↓reduceIte, Nat.reduceEqDiff, reduceCtorEq]
  refine X_box fun b w1 hr hlb hB => ?_
  have hr : Row w1 b [rb, rw] := hr
  have B := hB
  have hb := hb.up hB
  have hw := hw.up hB
  have h1 := h1.up hB
  have h2 := h2.up hB
  clear hB hlb
  simp (maxSteps := 1000000) (disch := omega) only [WS, List.getElem_cons_zero, List.getElem_cons_succ, Option.isNone_some, Option.isNone_none, List.getD_cons_zero, List.getD_cons_succ, I.at, atL, atO, atP, evp, evs, retV, ↓reduceIte, Nat.reduceEqDiff, reduceCtorEq, AS]
  refine X_box fun bo w2 hro hlb hB => ?_
  have hro : Row w2 bo [.int .i64 9, .bool false, F, G, .int .u16 (x.v.toNat : Int), .int .i64 n] := hro
  have hb := hb.up hB
  have hw := hw.up hB
  have h1 := h1.up hB
  have h2 := h2.up hB
  have hr := hr.up hB
  have B := B.trans (hB.mono B.size)
  clear hB
  clear hlb
  simp (maxSteps := 1000000) (disch := omega) only [WS, List.getElem_cons_zero, List.getElem_cons_succ, Option.isNone_some, Option.isNone_none, List.getD_cons_zero, List.getD_cons_succ, I.at, atL, atO, atP, evp, evs, retV, ↓reduceIte, Nat.reduceEqDiff, reduceCtorEq, AS, row6_0 hro, row6_1 hro, hr.Xldn (n := 2) rfl, show decide ((9 : Int) = 8) = false from rfl]
  refine X_call0 ((culletlaw04_Rings_interpolate_b_spec w2 rb rw s1 s2 _ _ hb hw h1 h2 (by omega) (by omega)).mono ?_)
  rw [lo8_map_em8, lo8_map_em8]
  rintro _ w3 ⟨hB, ⟨p1, p2, p3, p4, s, m, rfl, om, tm, cm, lm⟩ | ⟨s, e, rfl, om, hcase⟩⟩
  · have om := om.sl
    rw [m1] at p1 p3 lm cm
    rw [m2] at p2 p3
    have h1 := h1.up hB
    have h2 := h2.up hB
    have hro := hro.up hB
    have B := B.trans (hB.mono B.size)
    clear hB
    simp (maxSteps := 1000000) (disch := omega) only [WS, List.getElem_cons_zero, List.getElem_cons_succ, Option.isNone_some, Option.isNone_none, List.getD_cons_zero, List.getD_cons_succ, I.at, atL, atO, atP, evp, evs, retV, ↓reduceIte, Nat.reduceEqDiff, reduceCtorEq, AS, row6_1 hro]
    refine X_call0 ((culletref04_Interpolate_b_spec w3 s1 s2 _ _ h1 h2 (by omega) (by omega)).mono ?_)
    rintro _ w4 ⟨hB, ⟨-, -, -, -, s', m', rfl, om', tm', lm', hev⟩ | ⟨-, -, hbad, -⟩ | ⟨-, -, -, hbad, -⟩ | ⟨hbad, -⟩⟩
    · have om' := om'.sl
      have om := om.up hB
      have B := B.trans (hB.mono B.size)
      clear hB
      have he : m = m' := int_uniq tm tm' cm lm' hev p4
      subst he
      have hlm : (m.map em8).length = m.length := List.length_map ..
      simp (maxSteps := 1000000) (disch := omega) only [WS, List.getElem_cons_zero, List.getElem_cons_succ, Option.isNone_some, Option.isNone_none, List.getD_cons_zero, List.getD_cons_succ, I.at, atL, atO, atP, evp, evs, retV, ↓reduceIte, Nat.reduceEqDiff, reduceCtorEq, AS, dt]
      refine X_call0 ((culletlaw04_same_spec w4 s s' _ _ om om' (by omega) (by omega)).mono ?_)
      rintro _ w5 ⟨rfl, hk⟩
      have hB := hk.1
      have B := B.trans (hB.mono B.size)
      clear hB
      rw [decide_eq_true rfl]
      simp (maxSteps := 1000000) (disch := omega) only [WS, List.getElem_cons_zero, List.getElem_cons_succ, Option.isNone_some, Option.isNone_none, List.getD_cons_zero, List.getD_cons_succ, I.at, atL, atO, atP, evp, evs, retV, ↓reduceIte, Nat.reduceEqDiff, reduceCtorEq, AS]
      exact B
    · exact absurd p3 hbad
    · exact absurd p4 hbad
    · exact absurd ⟨p1, p2⟩ hbad
  · have om := om.sl
    rw [m1, m2] at hcase
    have h1 := h1.up hB
    have h2 := h2.up hB
    have hro := hro.up hB
    have B := B.trans (hB.mono B.size)
    clear hB
    simp (maxSteps := 1000000) (disch := omega) only [WS, List.getElem_cons_zero, List.getElem_cons_succ, Option.isNone_some, Option.isNone_none, List.getD_cons_zero, List.getD_cons_succ, I.at, atL, atO, atP, evp, evs, retV, ↓reduceIte, Nat.reduceEqDiff, reduceCtorEq, AS, row6_1 hro]
    refine X_call0 ((culletref04_Interpolate_b_spec w3 s1 s2 _ _ h1 h2 (by omega) (by omega)).mono ?_)
    intro v4 w4 hv4
    have key : RowKit.Below w3.heap.size w3 w4 ∧ v4 = .tuple #[.slice none 0 0, .int .i64 e] := by
      obtain ⟨hB, ⟨c1, c2, c3, c4, -⟩ | ⟨c1, c2, c3, rfl⟩ | ⟨c1, c2, c3, c4, rfl⟩ | ⟨c1, rfl⟩⟩ := hv4 <;> rcases hcase with ⟨d1, d2, d3, rfl⟩ | ⟨d1, d2, d3, d4, rfl⟩ | ⟨d1, rfl⟩ <;> first | exact ⟨hB, rfl⟩ | exact absurd c3 d3 | exact absurd c4 d4 | exact absurd ⟨c1, c2⟩ d1 | exact absurd d3 c3 | exact absurd ⟨d1, d2⟩ c1
    obtain ⟨hB, rfl⟩ := key
    have om := om.up hB
    have B := B.trans (hB.mono B.size)
    clear hB
    simp (maxSteps := 1000000) (disch := omega) only [WS, List.getElem_cons_zero, List.getElem_cons_succ, Option.isNone_some, Option.isNone_none, List.getD_cons_zero, List.getD_cons_succ, I.at, atL, atO, atP, evp, evs, retV, ↓reduceIte, Nat.reduceEqDiff, reduceCtorEq, AS, dt]
    refine X_call0 ((culletlaw04_same_spec w4 s _ _ _ om (Sl.nil (α := El 16) w4) (by simp) (by simp)).mono ?_)
    rintro _ w5 ⟨rfl, hk⟩
    have hB := hk.1
    have B := B.trans (hB.mono B.size)
    clear hB
    rw [decide_eq_true rfl]
    simp (maxSteps := 1000000) (disch := omega) only [WS, List.getElem_cons_zero, List.getElem_cons_succ, Option.isNone_some, Option.isNone_none, List.getD_cons_zero, List.getD_cons_succ, I.at, atL, atO, atP, evp, evs, retV, ↓reduceIte, Nat.reduceEqDiff, reduceCtorEq, AS]
    exact B
end Go.Proofs.YtcdagkcchfibjaaGreat.Fw
