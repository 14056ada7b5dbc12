import Derived.Test.YtcdagkcchfibjaaProg
import Derived.Test.YtcdagkcchfibjaaFwTNil
import Derived.Test.YtcdagkcchfibjaaSS04fNil
set_option linter.all false
set_option linter.unusedVariables false
set_option linter.unusedSimpArgs false
set_option maxRecDepth 100000
set_option maxHeartbeats 1000000
namespace Go.Proofs.Ytcdagkcchfibjaa.Fw
open Go Go.Fw Go.Proofs
attribute [local irreducible] stepI
def c_culletlaw04_Rings_mul : C := .seq (.ops [⟨0, (some 4), none, .box 25 (.t 0), []⟩, ⟨1, (some 8), none, .mov (.c (.slice none 0 0)), []⟩, ⟨2, (some 9), none, .mov (.c (.int .i64 0)), []⟩]) (.seq (.seq (.ops [⟨0, (some 14), none, .mov (.t 1), []⟩]) (.ite (.t 14) (.seq (.dops [⟨0, (some 16), none, .fad 1 (.t 4), []⟩, ⟨1, (some 17), none, .ld (.t 16), []⟩, ⟨2, (some 18), none, .mov (.t 2), []⟩, ⟨3, (some 19), none, .call (.c (.func (.func 38) #[] #[])) [.t 18], [1]⟩, ⟨4, (some 20), none, .mov (.t 3), []⟩, ⟨5, (some 21), none, .call (.c (.func (.func 38) #[] #[])) [.t 20], [1]⟩, ⟨6, (some 22), none, .call (.c (.func (.func 37) #[] #[])) [.t 17, .t 19, .t 21], []⟩, ⟨7, (some 15), none, .mov (.t 22), []⟩, ⟨8, (some 23), none, .ext (.t 15) 0, []⟩, ⟨9, (some 24), none, .ext (.t 15) 1, []⟩, ⟨10, (some 10), none, .mov (.t 23), []⟩, ⟨11, (some 11), none, .mov (.t 24), []⟩]) (.seq (.ops [⟨0, (some 25), none, .mov (.t 10), []⟩, ⟨1, (some 26), none, .mov (.t 11), []⟩, ⟨2, (some 8), none, .mov (.t 25), []⟩, ⟨3, (some 9), none, .mov (.t 26), []⟩]) .ret)) .skip)) (.seq (.dops [⟨0, (some 28), none, .fad 0 (.t 4), []⟩, ⟨1, (some 29), none, .ld (.t 28), []⟩, ⟨2, (some 30), none, .mov (.t 2), []⟩, ⟨3, (some 31), none, .call (.c (.func (.func 40) #[] #[])) [.t 30], [1]⟩, ⟨4, (some 32), none, .mov (.t 3), []⟩, ⟨5, (some 33), none, .call (.c (.func (.func 40) #[] #[])) [.t 32], [1]⟩, ⟨6, (some 34), none, .call (.c (.func (.func 39) #[] #[])) [.t 29, .t 31, .t 33], []⟩, ⟨7, (some 27), none, .mov (.t 34), []⟩, ⟨8, (some 35), none, .ext (.t 27) 0, []⟩, ⟨9, (some 36), none, .ext (.t 27) 1, []⟩, ⟨10, (some 12), none, .mov (.t 35), []⟩, ⟨11, (some 13), none, .mov (.t 36), []⟩]) (.seq (.ops [⟨0, (some 37), none, .mov (.t 12), []⟩, ⟨1, (some 38), none, .call (.c (.func (.func 41) #[] #[])) [.t 37], []⟩, ⟨2, (some 39), none, .mov (.t 13), []⟩, ⟨3, (some 8), none, .mov (.t 38), []⟩, ⟨4, (some 9), none, .mov (.t 39), []⟩]) .ret)))
attribute [irreducible] c_culletlaw04_Rings_mul
theorem run_culletlaw04_Rings_mul {args : List Value} {w : World} {K : Value → World → Prop} (hn : args.length ≤ 40) (h : WP Try.prog c_culletlaw04_Rings_mul (endQ [.t 8, .t 9] K) (initT args) w) : CallV Try.prog 13 args w K :=
  call_of follows Try.func13 (by kernel_rfl) (by kernel_rfl) hn h
def c_culletlaw04_Rings_vanishing : C := .seq (.ops [⟨0, (some 3), none, .box 25 (.t 0), []⟩, ⟨1, (some 6), none, .mov (.c (.slice none 0 0)), []⟩, ⟨2, (some 7), none, .mov (.c (.int .i64 0)), []⟩]) (.seq (.seq (.ops [⟨0, (some 12), none, .mov (.t 1), []⟩]) (.ite (.t 12) (.seq (.dops [⟨0, (some 14), none, .fad 1 (.t 3), []⟩, ⟨1, (some 15), none, .ld (.t 14), []⟩, ⟨2, (some 16), none, .mov (.t 2), []⟩, ⟨3, (some 17), none, .call (.c (.func (.func 38) #[] #[])) [.t 16], [1]⟩, ⟨4, (some 18), none, .call (.c (.func (.func 42) #[] #[])) [.t 15, .t 17], []⟩, ⟨5, (some 13), none, .mov (.t 18), []⟩, ⟨6, (some 19), none, .ext (.t 13) 0, []⟩, ⟨7, (some 20), none, .ext (.t 13) 1, []⟩, ⟨8, (some 8), none, .mov (.t 19), []⟩, ⟨9, (some 9), none, .mov (.t 20), []⟩]) (.seq (.ops [⟨0, (some 21), none, .mov (.t 8), []⟩, ⟨1, (some 22), none, .mov (.t 9), []⟩, ⟨2, (some 6), none, .mov (.t 21), []⟩, ⟨3, (some 7), none, .mov (.t 22), []⟩]) .ret)) .skip)) (.seq (.dops [⟨0, (some 24), none, .fad 0 (.t 3), []⟩, ⟨1, (some 25), none, .ld (.t 24), []⟩, ⟨2, (some 26), none, .mov (.t 2), []⟩, ⟨3, (some 27), none, .call (.c (.func (.func 40) #[] #[])) [.t 26], [1]⟩, ⟨4, (some 28), none, .call (.c (.func (.func 43) #[] #[])) [.t 25, .t 27], []⟩, ⟨5, (some 23), none, .mov (.t 28), []⟩, ⟨6, (some 29), none, .ext (.t 23) 0, []⟩, ⟨7, (some 30), none, .ext (.t 23) 1, []⟩, ⟨8, (some 10), none, .mov (.t 29), []⟩, ⟨9, (some 11), none, .mov (.t 30), []⟩]) (.seq (.ops [⟨0, (some 31), none, .mov (.t 10), []⟩, ⟨1, (some 32), none, .call (.c (.func (.func 41) #[] #[])) [.t 31], []⟩, ⟨2, (some 33), none, .mov (.t 11), []⟩, ⟨3, (some 6), none, .mov (.t 32), []⟩, ⟨4, (some 7), none, .mov (.t 33), []⟩]) .ret)))
attribute [irreducible] c_culletlaw04_Rings_vanishing
theorem run_culletlaw04_Rings_vanishing {args : List Value} {w : World} {K : Value → World → Prop} (hn : args.length ≤ 34) (h : WP Try.prog c_culletlaw04_Rings_vanishing (endQ [.t 6, .t 7] K) (initT args) w) : CallV Try.prog 14 args w K :=
  call_of follows Try.func14 (by kernel_rfl) (by kernel_rfl) hn h
def c_culletlaw04_Rings_derivative : C := .seq (.ops [⟨0, (some 3), none, .box 25 (.t 0), []⟩, ⟨1, (some 6), none, .mov (.c (.slice none 0 0)), []⟩]) (.seq (.seq (.ops [⟨0, (some 7), none, .mov (.t 1), []⟩]) (.ite (.t 7) (.seq (.dops [⟨0, (some 8), none, .fad 1 (.t 3), []⟩, ⟨1, (some 9), none, .ld (.t 8), []⟩, ⟨2, (some 10), none, .mov (.t 2), []⟩, ⟨3, (some 11), none, .call (.c (.func (.func 38) #[] #[])) [.t 10], [1]⟩, ⟨4, (some 12), none, .call (.c (.func (.func 44) #[] #[])) [.t 9, .t 11], []⟩, ⟨5, (some 6), none, .mov (.t 12), []⟩]) .ret) .skip)) (.seq (.dops [⟨0, (some 13), none, .fad 0 (.t 3), []⟩, ⟨1, (some 14), none, .ld (.t 13), []⟩, ⟨2, (some 15), none, .mov (.t 2), []⟩, ⟨3, (some 16), none, .call (.c (.func (.func 40) #[] #[])) [.t 15], [1]⟩, ⟨4, (some 17), none, .call (.c (.func (.func 45) #[] #[])) [.t 14, .t 16], []⟩, ⟨5, (some 18), none, .call (.c (.func (.func 41) #[] #[])) [.t 17], []⟩, ⟨6, (some 6), none, .mov (.t 18), []⟩]) .ret))
attribute [irreducible] c_culletlaw04_Rings_derivative
theorem run_culletlaw04_Rings_derivative {args : List Value} {w : World} {K : Value → World → Prop} (hn : args.length ≤ 19) (h : WP Try.prog c_culletlaw04_Rings_derivative (endQ [.t 6] K) (initT args) w) : CallV Try.prog 18 args w K :=
  call_of follows Try.func18 (by kernel_rfl) (by kernel_rfl) hn h
def c_culletlaw04_Rings_add : C := .seq (.ops [⟨0, (some 4), none, .box 25 (.t 0), []⟩, ⟨1, (some 8), none, .mov (.c (.slice none 0 0)), []⟩]) (.seq (.seq (.ops [⟨0, (some 9), none, .mov (.t 1), []⟩]) (.ite (.t 9) (.seq (.dops [⟨0, (some 10), none, .fad 1 (.t 4), []⟩, ⟨1, (some 11), none, .ld (.t 10), []⟩, ⟨2, (some 12), none, .mov (.t 2), []⟩, ⟨3, (some 13), none, .call (.c (.func (.func 38) #[] #[])) [.t 12], [1]⟩, ⟨4, (some 14), none, .mov (.t 3), []⟩, ⟨5, (some 15), none, .call (.c (.func (.func 38) #[] #[])) [.t 14], [1]⟩, ⟨6, (some 16), none, .call (.c (.func (.func 51) #[] #[])) [.t 11, .t 13, .t 15], []⟩, ⟨7, (some 8), none, .mov (.t 16), []⟩]) .ret) .skip)) (.seq (.dops [⟨0, (some 17), none, .fad 0 (.t 4), []⟩, ⟨1, (some 18), none, .ld (.t 17), []⟩, ⟨2, (some 19), none, .mov (.t 2), []⟩, ⟨3, (some 20), none, .call (.c (.func (.func 40) #[] #[])) [.t 19], [1]⟩, ⟨4, (some 21), none, .mov (.t 3), []⟩, ⟨5, (some 22), none, .call (.c (.func (.func 40) #[] #[])) [.t 21], [1]⟩, ⟨6, (some 23), none, .call (.c (.func (.func 52) #[] #[])) [.t 18, .t 20, .t 22], []⟩, ⟨7, (some 24), none, .call (.c (.func (.func 41) #[] #[])) [.t 23], []⟩, ⟨8, (some 8), none, .mov (.t 24), []⟩]) .ret))
attribute [irreducible] c_culletlaw04_Rings_add
theorem run_culletlaw04_Rings_add {args : List Value} {w : World} {K : Value → World → Prop} (hn : args.length ≤ 25) (h : WP Try.prog c_culletlaw04_Rings_add (endQ [.t 8] K) (initT args) w) : CallV Try.prog 24 args w K :=
  call_of follows Try.func24 (by kernel_rfl) (by kernel_rfl) hn h
def c_culletlaw04_Rings_eval : C := .seq (.ops [⟨0, (some 4), none, .box 25 (.t 0), []⟩, ⟨1, (some 8), none, .mov (.c (.int .u16 0)), []⟩]) (.seq (.seq (.ops [⟨0, (some 9), none, .mov (.t 1), []⟩]) (.ite (.t 9) (.seq (.dops [⟨0, (some 10), none, .fad 1 (.t 4), []⟩, ⟨1, (some 11), none, .ld (.t 10), []⟩, ⟨2, (some 12), none, .mov (.t 2), []⟩, ⟨3, (some 13), none, .call (.c (.func (.func 38) #[] #[])) [.t 12], [1]⟩, ⟨4, (some 14), none, .mov (.t 3), []⟩, ⟨5, (some 15), none, .call (.c (.func (.func 53) #[] #[])) [.t 11, .t 13, .t 14], []⟩, ⟨6, (some 8), none, .mov (.t 15), []⟩]) .ret) .skip)) (.seq (.dops [⟨0, (some 16), none, .fad 0 (.t 4), []⟩, ⟨1, (some 17), none, .ld (.t 16), []⟩, ⟨2, (some 18), none, .mov (.t 2), []⟩, ⟨3, (some 19), none, .call (.c (.func (.func 40) #[] #[])) [.t 18], [1]⟩, ⟨4, (some 20), none, .mov (.t 3), []⟩, ⟨5, (some 21), none, .cnv .u8 (.t 20), []⟩, ⟨6, (some 22), none, .call (.c (.func (.func 54) #[] #[])) [.t 17, .t 19, .t 21], []⟩, ⟨7, (some 23), none, .cnv .u16 (.t 22), []⟩, ⟨8, (some 8), none, .mov (.t 23), []⟩]) .ret))
attribute [irreducible] c_culletlaw04_Rings_eval
theorem run_culletlaw04_Rings_eval {args : List Value} {w : World} {K : Value → World → Prop} (hn : args.length ≤ 24) (h : WP Try.prog c_culletlaw04_Rings_eval (endQ [.t 8] K) (initT args) w) : CallV Try.prog 25 args w K :=
  call_of follows Try.func25 (by kernel_rfl) (by kernel_rfl) hn h
end Go.Proofs.Ytcdagkcchfibjaa.Fw
namespace Go.Proofs.Ytcdagkcchfibjaa.Fw
open Go Go.Fw
theorem culletlaw04_Rings_mul_w_spec (w : World) (rb rw s1 s2 : Value) (L1 L2 : List (El 16)) (hb : Ring_b w rb) (hw : Ring_w w rw) (h1 : Sl w s1 L1) (h2 : Sl w s2 L2) (b1 : L1.length ≤ 70368744175616) (b2 : L2.length ≤ 70368744175616) :
    CallV Try.prog 13 [.agg #[rb, rw], .bool true, s1, s2] w fun v w' => RowKit.Below w.heap.size w w' ∧ ((L1.length ≤ 1024 ∧ L2.length ≤ 1024 ∧ ∃ s m, v = .tuple #[s, .int .i64 0] ∧ Ow w.heap.size w' s (m.map em16) ∧ tr m = m ∧ co m = co (L1.map lo16) * co (L2.map lo16) ∧ m.length ≤ (L1.map lo16).length + (L2.map lo16).length) ∨ (¬ (L1.length ≤ 1024 ∧ L2.length ≤ 1024) ∧ ∃ s, v = .tuple #[s, .int .i64 5] ∧ Ow w.heap.size w' s ([] : List (El 16)))) := by
  refine run_culletlaw04_Rings_mul (by simp) ?_
  simp only [c_culletlaw04_Rings_mul, WS, List.getElem_cons_zero, List.getElem_cons_succ, Option.isNone_some, Option.isNone_none, List.getD_cons_zero, List.getD_cons_succ, I.at, atL, atO, atP, evp, evs, retV, ↓reduceIte, Nat.reduceEqDiff, reduceCtorEq]
  refine X_box fun b w1 hr hlb hB1 => ?_
  have hr : Row w1 b [rb, rw] := hr
  simp only [WS, List.getElem_cons_zero, List.getElem_cons_succ, Option.isNone_some, Option.isNone_none, List.getD_cons_zero, List.getD_cons_succ, I.at, atL, atO, atP, evp, evs, retV, ↓reduceIte, Nat.reduceEqDiff, reduceCtorEq]
  refine WP_dops ?_
  have hd0 := hr.drew
  have B0 : RowKit.Below w.heap.size w w1.drew := hB1.trans ((bel_drew w1).mono hB1.size)
  simp only [ES, List.mem_cons, List.not_mem_nil, implies_true, forall_const, WS, List.getElem_cons_zero, List.getElem_cons_succ, Option.isNone_some, Option.isNone_none, List.getD_cons_zero, List.getD_cons_succ, I.at, atL, atO, atP, evp, evs, retV, ↓reduceIte, Nat.reduceEqDiff, reduceCtorEq, addr_add0, Nat.add_zero, Nat.zero_add, hd0.Eld (show 1 < [rb, rw].length by simp)]
  refine E_call0 ((culletlaw04_twin_spec w1.drew s1 L1 (h1.up B0) b1).mono ?_)
  rintro a1 v1 ⟨o1, c1⟩
  have B1 : RowKit.Below w.heap.size w v1 := B0.trans (c1.mono B0.size)
  have r1 := hd0.up c1
  have z1 : Fw.sees Try.prog (.ld (.c (.pointer (some ⟨b, 1, none⟩)))) v1 rw = True := r1.sees (o := 1) (by simp) Try.prog
  simp only [ES, List.mem_cons, List.not_mem_nil, implies_true, forall_const, WS, List.getElem_cons_zero, List.getElem_cons_succ, Option.isNone_some, Option.isNone_none, List.getD_cons_zero, List.getD_cons_succ, I.at, atL, atO, atP, evp, evs, retV, ↓reduceIte, Nat.reduceEqDiff, reduceCtorEq, z1]
  refine E_call0 ((culletlaw04_twin_spec v1 s2 L2 (h2.up B1) b2).mono ?_)
  rintro a2 v2 ⟨o2, c2⟩
  have B2 : RowKit.Below w.heap.size w v2 := B1.trans (c2.mono B1.size)
  have r2 := r1.up c2
  have z2 : Fw.sees Try.prog (.ld (.c (.pointer (some ⟨b, 1, none⟩)))) v2 rw = True := r2.sees (o := 1) (by simp) Try.prog
  have o1 := o1.up c2
  simp only [ES, List.mem_cons, List.not_mem_nil, implies_true, forall_const, WS, List.getElem_cons_zero, List.getElem_cons_succ, Option.isNone_some, Option.isNone_none, List.getD_cons_zero, List.getD_cons_succ, I.at, atL, atO, atP, evp, evs, retV, ↓reduceIte, Nat.reduceEqDiff, reduceCtorEq, z2]
  refine E_call0 ((polys_Ring_w_Mul_spec v2 rw a1 a2 L1 L2 (hw.up B2) o1.sl o2.sl b1 b2).mono ?_)
  rintro v w9 ⟨B9, ⟨g0, g1, s, m, rfl, om, q0, q1, q2⟩ | ⟨hn, rfl⟩⟩
  · simp only [ES, List.mem_cons, List.not_mem_nil, implies_true, forall_const, WS, List.getElem_cons_zero, List.getElem_cons_succ, Option.isNone_some, Option.isNone_none, List.getD_cons_zero, List.getD_cons_succ, I.at, atL, atO, atP, evp, evs, retV, ↓reduceIte, Nat.reduceEqDiff, reduceCtorEq]
    refine ⟨B2.trans (B9.mono B2.size), Or.inl ⟨g0, g1, s, m, rfl, by rw [em16_map]; exact om.mono B2.size, ?_⟩⟩
    simp only [lo16_map]
    exact ⟨q0, q1, q2⟩
  · simp only [ES, List.mem_cons, List.not_mem_nil, implies_true, forall_const, WS, List.getElem_cons_zero, List.getElem_cons_succ, Option.isNone_some, Option.isNone_none, List.getD_cons_zero, List.getD_cons_succ, I.at, atL, atO, atP, evp, evs, retV, ↓reduceIte, Nat.reduceEqDiff, reduceCtorEq]
    exact ⟨B2.trans (B9.mono B2.size), Or.inr ⟨hn, _, rfl, Ow.nil _ _⟩⟩
theorem culletlaw04_Rings_mul_b_spec (w : World) (rb rw s1 s2 : Value) (L1 L2 : List (El 16)) (hb : Ring_b w rb) (hw : Ring_w w rw) (h1 : Sl w s1 L1) (h2 : Sl w s2 L2) (b1 : L1.length ≤ 70368744175616) (b2 : L2.length ≤ 70368744175616) :
    CallV Try.prog 13 [.agg #[rb, rw], .bool false, s1, s2] w fun v w' => RowKit.Below w.heap.size w w' ∧ ((L1.length ≤ 1024 ∧ L2.length ≤ 1024 ∧ ∃ s m, v = .tuple #[s, .int .i64 0] ∧ Ow w.heap.size w' s (m.map em8) ∧ tr m = m ∧ co m = co (L1.map lo8) * co (L2.map lo8) ∧ m.length ≤ (L1.map lo8).length + (L2.map lo8).length) ∨ (¬ (L1.length ≤ 1024 ∧ L2.length ≤ 1024) ∧ ∃ s, v = .tuple #[s, .int .i64 5] ∧ Ow w.heap.size w' s ([] : List (El 16)))) := by
  refine run_culletlaw04_Rings_mul (by simp) ?_
  simp only [c_culletlaw04_Rings_mul, WS, List.getElem_cons_zero, List.getElem_cons_succ, Option.isNone_some, Option.isNone_none, List.getD_cons_zero, List.getD_cons_succ, I.at, atL, atO, atP, evp, evs, retV, ↓reduceIte, Nat.reduceEqDiff, reduceCtorEq]
  refine X_box fun b w1 hr hlb hB1 => ?_
  have hr : Row w1 b [rb, rw] := hr
  simp only [WS, List.getElem_cons_zero, List.getElem_cons_succ, Option.isNone_some, Option.isNone_none, List.getD_cons_zero, List.getD_cons_succ, I.at, atL, atO, atP, evp, evs, retV, ↓reduceIte, Nat.reduceEqDiff, reduceCtorEq]
  refine WP_dops ?_
  have hd0 := hr.drew
  have B0 : RowKit.Below w.heap.size w w1.drew := hB1.trans ((bel_drew w1).mono hB1.size)
  simp only [ES, List.mem_cons, List.not_mem_nil, implies_true, forall_const, WS, List.getElem_cons_zero, List.getElem_cons_succ, Option.isNone_some, Option.isNone_none, List.getD_cons_zero, List.getD_cons_succ, I.at, atL, atO, atP, evp, evs, retV, ↓reduceIte, Nat.reduceEqDiff, reduceCtorEq, addr_add0, Nat.add_zero, Nat.zero_add, hd0.Eld (show 0 < [rb, rw].length by simp)]
  refine E_call0 ((culletlaw04_low_spec w1.drew s1 L1 (h1.up B0) b1).mono ?_)
  rintro a1 v1 ⟨o1, c1⟩
  have B1 : RowKit.Below w.heap.size w v1 := B0.trans (c1.mono B0.size)
  have r1 := hd0.up c1
  have z1 : Fw.sees Try.prog (.ld (.c (.pointer (some ⟨b, 0, none⟩)))) v1 rb = True := r1.sees (o := 0) (by simp) Try.prog
  simp only [ES, List.mem_cons, List.not_mem_nil, implies_true, forall_const, WS, List.getElem_cons_zero, List.getElem_cons_succ, Option.isNone_some, Option.isNone_none, List.getD_cons_zero, List.getD_cons_succ, I.at, atL, atO, atP, evp, evs, retV, ↓reduceIte, Nat.reduceEqDiff, reduceCtorEq, z1]
  refine E_call0 ((culletlaw04_low_spec v1 s2 L2 (h2.up B1) b2).mono ?_)
  rintro a2 v2 ⟨o2, c2⟩
  have B2 : RowKit.Below w.heap.size w v2 := B1.trans (c2.mono B1.size)
  have r2 := r1.up c2
  have z2 : Fw.sees Try.prog (.ld (.c (.pointer (some ⟨b, 0, none⟩)))) v2 rb = True := r2.sees (o := 0) (by simp) Try.prog
  have o1 := o1.up c2
  simp only [ES, List.mem_cons, List.not_mem_nil, implies_true, forall_const, WS, List.getElem_cons_zero, List.getElem_cons_succ, Option.isNone_some, Option.isNone_none, List.getD_cons_zero, List.getD_cons_succ, I.at, atL, atO, atP, evp, evs, retV, ↓reduceIte, Nat.reduceEqDiff, reduceCtorEq, z2]
  refine E_call0 ((polys_Ring_b_Mul_spec v2 rb a1 a2 (L1.map lo8) (L2.map lo8) (hb.up B2) o1.sl o2.sl (by rw [List.length_map]; exact b1) (by rw [List.length_map]; exact b2)).mono ?_)
  rintro v w9 ⟨B9, ⟨g0, g1, s, m, rfl, om, q0, q1, q2⟩ | ⟨hn, rfl⟩⟩
  · simp only [ES, List.mem_cons, List.not_mem_nil, implies_true, forall_const, WS, List.getElem_cons_zero, List.getElem_cons_succ, Option.isNone_some, Option.isNone_none, List.getD_cons_zero, List.getD_cons_succ, I.at, atL, atO, atP, evp, evs, retV, ↓reduceIte, Nat.reduceEqDiff, reduceCtorEq]
    refine X_call0 ((culletlaw04_up_spec w9 _ m om.sl (by simp only [List.length_map, List.length_nil] at *; omega)).mono ?_)
    rintro v2 w10 ⟨o10, B10⟩
    simp only [WS, List.getElem_cons_zero, List.getElem_cons_succ, Option.isNone_some, Option.isNone_none, List.getD_cons_zero, List.getD_cons_succ, I.at, atL, atO, atP, evp, evs, retV, ↓reduceIte, Nat.reduceEqDiff, reduceCtorEq]
    simp only [List.length_map] at *
    exact ⟨(B2.trans (B9.mono B2.size)).trans (B10.mono (Nat.le_trans B2.size B9.size)), Or.inl ⟨g0, g1, v2, m, rfl, o10.mono (Nat.le_trans B2.size B9.size), q0, q1, q2⟩⟩
  · simp only [ES, List.mem_cons, List.not_mem_nil, implies_true, forall_const, WS, List.getElem_cons_zero, List.getElem_cons_succ, Option.isNone_some, Option.isNone_none, List.getD_cons_zero, List.getD_cons_succ, I.at, atL, atO, atP, evp, evs, retV, ↓reduceIte, Nat.reduceEqDiff, reduceCtorEq]
    refine X_call0 ((culletlaw04_up_spec w9 _ ([] : List (El 8)) (Sl.nil w9) (by simp only [List.length_map, List.length_nil] at *; omega)).mono ?_)
    rintro v2 w10 ⟨o10, B10⟩
    simp only [WS, List.getElem_cons_zero, List.getElem_cons_succ, Option.isNone_some, Option.isNone_none, List.getD_cons_zero, List.getD_cons_succ, I.at, atL, atO, atP, evp, evs, retV, ↓reduceIte, Nat.reduceEqDiff, reduceCtorEq]
    simp only [List.length_map] at *
    exact ⟨(B2.trans (B9.mono B2.size)).trans (B10.mono (Nat.le_trans B2.size B9.size)), Or.inr ⟨hn, v2, rfl, o10.mono (Nat.le_trans B2.size B9.size)⟩⟩
theorem culletlaw04_Rings_eval_b_spec (w : World) (rb rw s1 : Value) (L1 : List (El 16)) (x : El 8) (hb : Ring_b w rb) (hw : Ring_w w rw) (h1 : Sl w s1 L1) (b1 : L1.length ≤ 70368744175616) :
    CallV Try.prog 25 [.agg #[rb, rw], .bool false, s1, .int .u16 ((em8 x).v.toNat : Int)] w fun v w' => RowKit.Below w.heap.size w w' ∧ v = .int .u16 ((em8 (evl (L1.map lo8) x)).v.toNat : Int) := by
  refine run_culletlaw04_Rings_eval (by simp) ?_
  simp only [c_culletlaw04_Rings_eval, WS, List.getElem_cons_zero, List.getElem_cons_succ, Option.isNone_some, Option.isNone_none, List.getD_cons_zero, List.getD_cons_succ, I.at, atL, atO, atP, evp, evs, retV, ↓reduceIte, Nat.reduceEqDiff, reduceCtorEq]
  refine X_box fun b w1 hr hlb hB1 => ?_
  have hr : Row w1 b [rb, rw] := hr
  simp only [WS, List.getElem_cons_zero, List.getElem_cons_succ, Option.isNone_some, Option.isNone_none, List.getD_cons_zero, List.getD_cons_succ, I.at, atL, atO, atP, evp, evs, retV, ↓reduceIte, Nat.reduceEqDiff, reduceCtorEq]
  refine WP_dops ?_
  have hd0 := hr.drew
  have B0 : RowKit.Below w.heap.size w w1.drew := hB1.trans ((bel_drew w1).mono hB1.size)
  simp only [ES, List.mem_cons, List.not_mem_nil, implies_true, forall_const, WS, List.getElem_cons_zero, List.getElem_cons_succ, Option.isNone_some, Option.isNone_none, List.getD_cons_zero, List.getD_cons_succ, I.at, atL, atO, atP, evp, evs, retV, ↓reduceIte, Nat.reduceEqDiff, reduceCtorEq, addr_add0, Nat.add_zero, Nat.zero_add, hd0.Eld (show 0 < [rb, rw].length by simp)]
  refine E_call0 ((culletlaw04_low_spec w1.drew s1 L1 (h1.up B0) b1).mono ?_)
  rintro a1 v1 ⟨o1, c1⟩
  have B1 : RowKit.Below w.heap.size w v1 := B0.trans (c1.mono B0.size)
  have r1 := hd0.up c1
  have z1 : Fw.sees Try.prog (.ld (.c (.pointer (some ⟨b, 0, none⟩)))) v1 rb = True := r1.sees (o := 0) (by simp) Try.prog
  simp only [ES, List.mem_cons, List.not_mem_nil, implies_true, forall_const, WS, List.getElem_cons_zero, List.getElem_cons_succ, Option.isNone_some, Option.isNone_none, List.getD_cons_zero, List.getD_cons_succ, I.at, atL, atO, atP, evp, evs, retV, ↓reduceIte, Nat.reduceEqDiff, reduceCtorEq, z1, em8_nat, wrap_u8 _ (show x.v.toNat < 256 from x.v.isLt)]
  refine E_call0 ((polys_Ring_b_Eval_spec v1 rb a1 (L1.map lo8) x (hb.up B1) o1.sl (by rw [List.length_map]; exact b1)).mono ?_)
  rintro v w9 ⟨rfl, B9⟩
  simp only [ES, List.mem_cons, List.not_mem_nil, implies_true, forall_const, WS, List.getElem_cons_zero, List.getElem_cons_succ, Option.isNone_some, Option.isNone_none, List.getD_cons_zero, List.getD_cons_succ, I.at, atL, atO, atP, evp, evs, retV, ↓reduceIte, Nat.reduceEqDiff, reduceCtorEq]
  have := (evl (L1.map lo8) x).v.isLt
  simp only [ES, List.mem_cons, List.not_mem_nil, implies_true, forall_const, WS, List.getElem_cons_zero, List.getElem_cons_succ, Option.isNone_some, Option.isNone_none, List.getD_cons_zero, List.getD_cons_succ, I.at, atL, atO, atP, evp, evs, retV, ↓reduceIte, Nat.reduceEqDiff, reduceCtorEq, em8_nat, wrap_u16 _ (show (evl (L1.map lo8) x).v.toNat < 65536 by omega)]
  exact B1.trans (B9.mono B1.size)
end Go.Proofs.Ytcdagkcchfibjaa.Fw
