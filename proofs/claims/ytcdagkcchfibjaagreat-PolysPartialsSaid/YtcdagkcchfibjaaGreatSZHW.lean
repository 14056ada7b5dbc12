import Derived.Test.YtcdagkcchfibjaaGreatProg
import Derived.Test.YtcdagkcchfibjaaGreatFwTW
import Derived.Test.YtcdagkcchfibjaaGreatSZGW
set_option linter.all false
set_option linter.unusedVariables false
set_option linter.unusedSimpArgs false
set_option maxRecDepth 100000
set_option maxHeartbeats 1000000
namespace Go.Proofs.YtcdagkcchfibjaaGreat.Fw
open Go Go.Fw Go.Proofs
attribute [local irreducible] stepI
def c_culletlaw04_simple : C := .seq (.ops [⟨0, (some 4), none, .box 28 (.t 0), []⟩, ⟨1, (some 5), none, .box 34 (.t 1), []⟩, ⟨2, (some 8), none, .mov (.c (.bool false)), []⟩]) (.seq (.seq (.ops [⟨0, (some 9), none, .fad 0 (.t 5), []⟩, ⟨1, (some 10), none, .ld (.t 9), []⟩]) (.block 0 (.seq (.ops [⟨0, (some 12), none, .bin .eql (.t 10) (.c (.int .i64 1)), []⟩, ⟨1, (some 11), none, .mov (.t 12), []⟩]) (.ite (.t 11) (.seq (.ops [⟨0, (some 13), none, .ldn 2 (.t 4), []⟩, ⟨1, (some 14), none, .fad 1 (.t 5), []⟩, ⟨2, (some 15), none, .ld (.t 14), []⟩, ⟨3, (some 16), none, .mov (.t 2), []⟩, ⟨4, (some 17), none, .call (.c (.func (.func 33) #[] #[])) [.t 13, .t 15, .t 16], []⟩, ⟨5, (some 18), none, .mov (.t 2), []⟩, ⟨6, (some 19), none, .call (.c (.func (.func 34) #[] #[])) [.t 18], []⟩, ⟨7, (some 20), none, .call (.c (.func (.func 14) #[] #[])) [.t 17, .t 19], []⟩, ⟨8, (some 21), none, .mov (.t 20), []⟩, ⟨9, (some 22), (some (21, true)), .ldn 2 (.t 4), []⟩, ⟨10, (some 23), (some (21, true)), .fad 1 (.t 5), []⟩, ⟨11, (some 24), (some (21, true)), .ld (.t 23), []⟩, ⟨12, (some 25), (some (21, true)), .mov (.t 2), []⟩, ⟨13, (some 26), (some (21, true)), .call (.c (.func (.func 35) #[] #[])) [.t 22, .t 24, .t 25], []⟩, ⟨14, (some 27), (some (21, true)), .mov (.t 2), []⟩, ⟨15, (some 28), (some (21, true)), .call (.c (.func (.func 36) #[] #[])) [.t 27], []⟩, ⟨16, (some 29), (some (21, true)), .bin .eql (.t 26) (.t 28), []⟩, ⟨17, (some 30), none, .pick (.t 21) (.t 29) (.c (.bool false)), []⟩, ⟨18, (some 8), none, .mov (.t 30), []⟩]) .ret) (.seq (.ops [⟨0, (some 32), none, .bin .eql (.t 10) (.c (.int .i64 2)), []⟩, ⟨1, (some 31), none, .mov (.t 32), []⟩]) (.ite (.t 31) (.seq (.ops [⟨0, (some 33), none, .ldn 2 (.t 4), []⟩, ⟨1, (some 34), none, .fad 1 (.t 5), []⟩, ⟨2, (some 35), none, .ld (.t 34), []⟩, ⟨3, (some 36), none, .mov (.t 2), []⟩, ⟨4, (some 37), none, .mov (.t 3), []⟩, ⟨5, (some 38), none, .call (.c (.func (.func 37) #[] #[])) [.t 33, .t 35, .t 36, .t 37], []⟩, ⟨6, (some 39), none, .mov (.t 2), []⟩, ⟨7, (some 40), none, .mov (.t 3), []⟩, ⟨8, (some 41), none, .call (.c (.func (.func 38) #[] #[])) [.t 39, .t 40], []⟩, ⟨9, (some 42), none, .call (.c (.func (.func 14) #[] #[])) [.t 38, .t 41], []⟩, ⟨10, (some 8), none, .mov (.t 42), []⟩]) .ret) (.seq (.ops [⟨0, (some 44), none, .bin .eql (.t 10) (.c (.int .i64 3)), []⟩, ⟨1, (some 43), none, .mov (.t 44), []⟩]) (.ite (.t 43) (.seq (.dops [⟨0, (some 45), none, .ldn 2 (.t 4), []⟩, ⟨1, (some 46), none, .fad 1 (.t 5), []⟩, ⟨2, (some 47), none, .ld (.t 46), []⟩, ⟨3, (some 48), none, .mov (.t 2), []⟩, ⟨4, (some 49), none, .fad 1 (.t 5), []⟩, ⟨5, (some 50), none, .ld (.t 49), []⟩, ⟨6, (some 51), none, .fad 4 (.t 5), []⟩, ⟨7, (some 52), none, .ld (.t 51), []⟩, ⟨8, (some 53), none, .call (.c (.func (.func 39) #[] #[])) [.t 50, .t 52], [0, 2]⟩, ⟨9, (some 54), none, .call (.c (.func (.func 15) #[] #[])) [.t 45, .t 47, .t 48, .t 53], []⟩, ⟨10, (some 55), none, .fad 1 (.t 5), []⟩, ⟨11, (some 56), none, .ld (.t 55), [8, 9]⟩, ⟨12, (some 57), none, .mov (.t 2), []⟩, ⟨13, (some 58), none, .fad 1 (.t 5), []⟩, ⟨14, (some 59), none, .ld (.t 58), [8, 9]⟩, ⟨15, (some 60), none, .fad 4 (.t 5), []⟩, ⟨16, (some 61), none, .ld (.t 60), [8, 9]⟩, ⟨17, (some 62), none, .call (.c (.func (.func 39) #[] #[])) [.t 59, .t 61], [11]⟩, ⟨18, (some 63), none, .call (.c (.func (.func 40) #[] #[])) [.t 56, .t 57, .t 62], []⟩, ⟨19, (some 64), none, .bin .eql (.t 54) (.t 63), []⟩, ⟨20, (some 8), none, .mov (.t 64), []⟩]) .ret) .skip)))))))) (.seq (.ops [⟨0, (some 65), none, .ldn 2 (.t 4), []⟩, ⟨1, (some 66), none, .fad 1 (.t 5), []⟩, ⟨2, (some 67), none, .ld (.t 66), []⟩, ⟨3, (some 68), none, .mov (.t 2), []⟩, ⟨4, (some 69), none, .call (.c (.func (.func 41) #[] #[])) [.t 65, .t 67, .t 68], []⟩, ⟨5, (some 70), none, .mov (.t 2), []⟩, ⟨6, (some 71), none, .call (.c (.func (.func 42) #[] #[])) [.t 70], []⟩, ⟨7, (some 72), none, .call (.c (.func (.func 14) #[] #[])) [.t 69, .t 71], []⟩, ⟨8, (some 8), none, .mov (.t 72), []⟩]) .ret))
attribute [irreducible] c_culletlaw04_simple
theorem run_culletlaw04_simple {args : List Value} {w : World} {K : Value → World → Prop} (hn : args.length ≤ 73) (h : WP Tryz.prog c_culletlaw04_simple (endQ [.t 8] K) (initT args) w) : CallV Tryz.prog 17 args w K :=
  call_of follows Tryz.func17 (by kernel_rfl) (by kernel_rfl) hn h
def c_culletlaw04_products : C := .seq (.ops [⟨0, (some 4), none, .box 28 (.t 0), []⟩, ⟨1, (some 5), none, .box 34 (.t 1), []⟩, ⟨2, (some 8), none, .mov (.c (.bool false)), []⟩]) (.seq (.seq (.ops [⟨0, (some 23), none, .fad 0 (.t 5), []⟩, ⟨1, (some 24), none, .ld (.t 23), []⟩]) (.block 0 (.seq (.ops [⟨0, (some 26), none, .bin .eql (.t 24) (.c (.int .i64 5)), []⟩, ⟨1, (some 25), none, .mov (.t 26), []⟩]) (.ite (.t 25) (.seq (.ops [⟨0, (some 28), none, .ldn 2 (.t 4), []⟩, ⟨1, (some 29), none, .fad 1 (.t 5), []⟩, ⟨2, (some 30), none, .ld (.t 29), []⟩, ⟨3, (some 31), none, .mov (.t 2), []⟩, ⟨4, (some 32), none, .mov (.t 3), []⟩, ⟨5, (some 33), none, .call (.c (.func (.func 13) #[] #[])) [.t 28, .t 30, .t 31, .t 32], []⟩, ⟨6, (some 27), none, .mov (.t 33), []⟩, ⟨7, (some 34), none, .ext (.t 27) 0, []⟩, ⟨8, (some 35), none, .ext (.t 27) 1, []⟩, ⟨9, (some 9), none, .mov (.t 34), []⟩, ⟨10, (some 10), none, .mov (.t 35), []⟩]) (.seq (.ops [⟨0, (some 37), none, .fad 1 (.t 5), []⟩, ⟨1, (some 38), none, .ld (.t 37), []⟩, ⟨2, (some 39), none, .mov (.t 2), []⟩, ⟨3, (some 40), none, .mov (.t 3), []⟩, ⟨4, (some 41), none, .call (.c (.func (.func 43) #[] #[])) [.t 38, .t 39, .t 40], []⟩, ⟨5, (some 36), none, .mov (.t 41), []⟩, ⟨6, (some 42), none, .ext (.t 36) 0, []⟩, ⟨7, (some 43), none, .ext (.t 36) 1, []⟩, ⟨8, (some 11), none, .mov (.t 42), []⟩, ⟨9, (some 12), none, .mov (.t 43), []⟩]) (.seq (.ops [⟨0, (some 44), none, .mov (.t 10), []⟩, ⟨1, (some 45), none, .mov (.t 12), []⟩, ⟨2, (some 46), none, .bin .eql (.t 44) (.t 45), []⟩, ⟨3, (some 47), none, .mov (.t 46), []⟩, ⟨4, (some 48), (some (47, true)), .mov (.t 9), []⟩, ⟨5, (some 49), (some (47, true)), .mov (.t 11), []⟩, ⟨6, (some 50), (some (47, true)), .call (.c (.func (.func 14) #[] #[])) [.t 48, .t 49], []⟩, ⟨7, (some 51), none, .pick (.t 47) (.t 50) (.c (.bool false)), []⟩, ⟨8, (some 8), none, .mov (.t 51), []⟩]) .ret))) (.seq (.ops [⟨0, (some 53), none, .bin .eql (.t 24) (.c (.int .i64 7)), []⟩, ⟨1, (some 52), none, .mov (.t 53), []⟩]) (.ite (.t 52) (.seq (.ops [⟨0, (some 55), none, .ldn 2 (.t 4), []⟩, ⟨1, (some 56), none, .fad 1 (.t 5), []⟩, ⟨2, (some 57), none, .ld (.t 56), []⟩, ⟨3, (some 58), none, .mov (.t 2), []⟩, ⟨4, (some 59), none, .mov (.t 3), []⟩, ⟨5, (some 60), none, .call (.c (.func (.func 44) #[] #[])) [.t 55, .t 57, .t 58, .t 59], []⟩, ⟨6, (some 54), none, .mov (.t 60), []⟩, ⟨7, (some 61), none, .ext (.t 54) 0, []⟩, ⟨8, (some 62), none, .ext (.t 54) 1, []⟩, ⟨9, (some 13), none, .mov (.t 61), []⟩, ⟨10, (some 14), none, .mov (.t 62), []⟩]) (.seq (.ops [⟨0, (some 64), none, .fad 1 (.t 5), []⟩, ⟨1, (some 65), none, .ld (.t 64), []⟩, ⟨2, (some 66), none, .mov (.t 2), []⟩, ⟨3, (some 67), none, .mov (.t 3), []⟩, ⟨4, (some 68), none, .call (.c (.func (.func 45) #[] #[])) [.t 65, .t 66, .t 67], []⟩, ⟨5, (some 63), none, .mov (.t 68), []⟩, ⟨6, (some 69), none, .ext (.t 63) 0, []⟩, ⟨7, (some 70), none, .ext (.t 63) 1, []⟩, ⟨8, (some 15), none, .mov (.t 69), []⟩, ⟨9, (some 16), none, .mov (.t 70), []⟩]) (.seq (.ops [⟨0, (some 71), none, .mov (.t 14), []⟩, ⟨1, (some 72), none, .mov (.t 16), []⟩, ⟨2, (some 73), none, .bin .eql (.t 71) (.t 72), []⟩, ⟨3, (some 74), none, .mov (.t 73), []⟩, ⟨4, (some 75), (some (74, true)), .mov (.t 13), []⟩, ⟨5, (some 76), (some (74, true)), .mov (.t 15), []⟩, ⟨6, (some 77), (some (74, true)), .call (.c (.func (.func 14) #[] #[])) [.t 75, .t 76], []⟩, ⟨7, (some 78), none, .pick (.t 74) (.t 77) (.c (.bool false)), []⟩, ⟨8, (some 8), none, .mov (.t 78), []⟩]) .ret))) .skip)))))) (.seq (.ops [⟨0, (some 80), none, .ldn 2 (.t 4), []⟩, ⟨1, (some 81), none, .fad 1 (.t 5), []⟩, ⟨2, (some 82), none, .ld (.t 81), []⟩, ⟨3, (some 83), none, .mov (.t 2), []⟩, ⟨4, (some 84), none, .mov (.t 3), []⟩, ⟨5, (some 85), none, .call (.c (.func (.func 46) #[] #[])) [.t 80, .t 82, .t 83, .t 84], []⟩, ⟨6, (some 79), none, .mov (.t 85), []⟩, ⟨7, (some 86), none, .ext (.t 79) 0, []⟩, ⟨8, (some 87), none, .ext (.t 79) 1, []⟩, ⟨9, (some 88), none, .ext (.t 79) 2, []⟩, ⟨10, (some 17), none, .mov (.t 86), []⟩, ⟨11, (some 18), none, .mov (.t 87), []⟩, ⟨12, (some 19), none, .mov (.t 88), []⟩]) (.seq (.ops [⟨0, (some 90), none, .fad 1 (.t 5), []⟩, ⟨1, (some 91), none, .ld (.t 90), []⟩, ⟨2, (some 92), none, .mov (.t 2), []⟩, ⟨3, (some 93), none, .mov (.t 3), []⟩, ⟨4, (some 94), none, .call (.c (.func (.func 47) #[] #[])) [.t 91, .t 92, .t 93], []⟩, ⟨5, (some 89), none, .mov (.t 94), []⟩, ⟨6, (some 95), none, .ext (.t 89) 0, []⟩, ⟨7, (some 96), none, .ext (.t 89) 1, []⟩, ⟨8, (some 97), none, .ext (.t 89) 2, []⟩, ⟨9, (some 20), none, .mov (.t 95), []⟩, ⟨10, (some 21), none, .mov (.t 96), []⟩, ⟨11, (some 22), none, .mov (.t 97), []⟩]) (.seq (.ops [⟨0, (some 98), none, .mov (.t 19), []⟩, ⟨1, (some 99), none, .mov (.t 22), []⟩, ⟨2, (some 100), none, .bin .eql (.t 98) (.t 99), []⟩, ⟨3, (some 101), none, .mov (.t 100), []⟩, ⟨4, (some 102), (some (101, true)), .mov (.t 17), []⟩, ⟨5, (some 103), (some (101, true)), .mov (.t 20), []⟩, ⟨6, (some 104), (some (101, true)), .call (.c (.func (.func 14) #[] #[])) [.t 102, .t 103], []⟩, ⟨7, (some 105), none, .pick (.t 101) (.t 104) (.c (.bool false)), []⟩, ⟨8, (some 106), none, .mov (.t 105), []⟩, ⟨9, (some 107), (some (106, true)), .mov (.t 18), []⟩, ⟨10, (some 108), (some (106, true)), .mov (.t 21), []⟩, ⟨11, (some 109), (some (106, true)), .call (.c (.func (.func 14) #[] #[])) [.t 107, .t 108], []⟩, ⟨12, (some 110), none, .pick (.t 106) (.t 109) (.c (.bool false)), []⟩, ⟨13, (some 8), none, .mov (.t 110), []⟩]) .ret))))
attribute [irreducible] c_culletlaw04_products
theorem run_culletlaw04_products {args : List Value} {w : World} {K : Value → World → Prop} (hn : args.length ≤ 111) (h : WP Tryz.prog c_culletlaw04_products (endQ [.t 8] K) (initT args) w) : CallV Tryz.prog 18 args w K :=
  call_of follows Tryz.func18 (by kernel_rfl) (by kernel_rfl) hn h
end Go.Proofs.YtcdagkcchfibjaaGreat.Fw
namespace Go.Proofs.YtcdagkcchfibjaaGreat.Fw
open Go Go.Fw
theorem culletlaw04_simple1_w_spec (w : World) (rb rw F G s1 s2 : Value) (L1 L2 : List (El 16)) (x : El 16) (n : Int) (hb : Ring_b w rb) (hw : Ring_w w rw) (h1 : Sl w s1 (L1.map em16)) (h2 : Sl w s2 (L2.map em16)) (b1 : L1.length ≤ 70368744175616) (b2 : L2.length ≤ 70368744175616) :
    CallV Tryz.prog 17 [.agg #[rb, rw], .agg #[.int .i64 1, .bool true, F, G, .int .u16 (x.v.toNat : Int), .int .i64 n], s1, s2] w fun v w' => v = .bool true ∧ RowKit.Below w.heap.size w w' := by
  have m1 : (L1.map em16).length = L1.length := List.length_map ..
  have dt : ∀ e : Int, decide (e = e) = true := fun e => decide_eq_true rfl
  refine run_culletlaw04_simple (by simp) ?_
  simp only [c_culletlaw04_simple, WS, List.getElem_cons_zero, List.getElem_cons_succ, Option.isNone_some, Option.isNone_none, List.getD_cons_zero, List.getD_cons_succ, I.at, atL, atO, atP, evp, evs, retV, ↓reduceIte, Nat.reduceEqDiff, reduceCtorEq]
  refine X_box fun b w1 hr hlb hB => ?_
  have hr : Row w1 b [rb, rw] := hr
  have B := hB
  have hb := hb.up hB
  have hw := hw.up hB
  have h1 := h1.up hB
  have h2 := h2.up hB
  clear hB hlb
  simp (maxSteps := 1000000) (disch := omega) only [WS, List.getElem_cons_zero, List.getElem_cons_succ, Option.isNone_some, Option.isNone_none, List.getD_cons_zero, List.getD_cons_succ, I.at, atL, atO, atP, evp, evs, retV, ↓reduceIte, Nat.reduceEqDiff, reduceCtorEq, AS]
  refine X_box fun bo w2 hro hlb hB => ?_
  have hro : Row w2 bo [.int .i64 1, .bool true, F, G, .int .u16 (x.v.toNat : Int), .int .i64 n] := hro
  have hb := hb.up hB
  have hw := hw.up hB
  have h1 := h1.up hB
  have h2 := h2.up hB
  have hr := hr.up hB
  have B := B.trans (hB.mono B.size)
  clear hB
  clear hlb
  simp (maxSteps := 1000000) (disch := omega) only [WS, List.getElem_cons_zero, List.getElem_cons_succ, Option.isNone_some, Option.isNone_none, List.getD_cons_zero, List.getD_cons_succ, I.at, atL, atO, atP, evp, evs, retV, ↓reduceIte, Nat.reduceEqDiff, reduceCtorEq, AS, row6_0 hro, row6_1 hro, hr.Xldn (n := 2) rfl, show decide ((1 : Int) = 1) = true from rfl]
  refine X_call0 ((culletlaw04_Rings_trim_w_spec w2 rb rw s1 _ hb hw h1 (by omega)).mono ?_)
  rintro v w3 ⟨hB, m, om, tm, cm, lm⟩
  have om := om.sl
  rw [lo16_map_em16] at cm
  rw [lo16_map_em16] at lm
  have hb := hb.up hB
  have hw := hw.up hB
  have h1 := h1.up hB
  have h2 := h2.up hB
  have hr := hr.up hB
  have hro := hro.up hB
  have B := B.trans (hB.mono B.size)
  clear hB
  simp (maxSteps := 1000000) (disch := omega) only [WS, List.getElem_cons_zero, List.getElem_cons_succ, Option.isNone_some, Option.isNone_none, List.getD_cons_zero, List.getD_cons_succ, I.at, atL, atO, atP, evp, evs, retV, ↓reduceIte, Nat.reduceEqDiff, reduceCtorEq, AS]
  refine X_call0 ((culletref04_Trim_spec w3 s1 _ h1 (by omega)).mono ?_)
  rintro v2 w4 ⟨o2, hB⟩
  have o2 := o2.sl
  have hb := hb.up hB
  have hw := hw.up hB
  have h1 := h1.up hB
  have h2 := h2.up hB
  have hr := hr.up hB
  have hro := hro.up hB
  have om := om.up hB
  have B := B.trans (hB.mono B.size)
  clear hB
  have he : m.map em16 = tr (L1.map em16) := by
    rw [tr_em16, ← tm, tr_eq cm]
  have hlm : (m.map em16).length = m.length := List.length_map ..
  have hlt : (tr (L1.map em16)).length ≤ L1.length := by rw [← he, hlm]; exact lm
  simp (maxSteps := 1000000) (disch := omega) only [WS, List.getElem_cons_zero, List.getElem_cons_succ, Option.isNone_some, Option.isNone_none, List.getD_cons_zero, List.getD_cons_succ, I.at, atL, atO, atP, evp, evs, retV, ↓reduceIte, Nat.reduceEqDiff, reduceCtorEq, AS]
  refine X_call0 ((culletlaw04_same_spec w4 v v2 _ _ om o2 (by omega) (by omega)).mono ?_)
  rintro _ w5 ⟨rfl, hk⟩
  have hB := hk.1
  have hb := hb.up hB
  have hw := hw.up hB
  have h1 := h1.up hB
  have h2 := h2.up hB
  have hr := hr.up hB
  have hro := hro.up hB
  have B := B.trans (hB.mono B.size)
  clear hB
  rw [decide_eq_true he]
  simp (maxSteps := 1000000) (disch := omega) only [WS, List.getElem_cons_zero, List.getElem_cons_succ, Option.isNone_some, Option.isNone_none, List.getD_cons_zero, List.getD_cons_succ, I.at, atL, atO, atP, evp, evs, retV, ↓reduceIte, Nat.reduceEqDiff, reduceCtorEq, AS, row6_1 hro, hr.Xldn (n := 2) rfl]
  refine X_call0 ((culletlaw04_Rings_degree_w_spec w5 rb rw s1 _ hb hw h1 (by omega)).mono ?_)
  rintro _ w6 ⟨hB, rfl⟩
  have hb := hb.up hB
  have hw := hw.up hB
  have h1 := h1.up hB
  have h2 := h2.up hB
  have hr := hr.up hB
  have hro := hro.up hB
  have B := B.trans (hB.mono B.size)
  clear hB
  rw [lo16_map_em16]
  simp (maxSteps := 1000000) (disch := omega) only [WS, List.getElem_cons_zero, List.getElem_cons_succ, Option.isNone_some, Option.isNone_none, List.getD_cons_zero, List.getD_cons_succ, I.at, atL, atO, atP, evp, evs, retV, ↓reduceIte, Nat.reduceEqDiff, reduceCtorEq, AS]
  refine X_call0 ((culletref04_Degree_spec w6 s1 _ h1 (by omega)).mono ?_)
  rintro _ w7 ⟨rfl, rfl⟩
  rw [tln_em16x]
  simp (maxSteps := 1000000) (disch := omega) only [WS, List.getElem_cons_zero, List.getElem_cons_succ, Option.isNone_some, Option.isNone_none, List.getD_cons_zero, List.getD_cons_succ, I.at, atL, atO, atP, evp, evs, retV, ↓reduceIte, Nat.reduceEqDiff, reduceCtorEq, AS, dt]
  exact B
theorem culletlaw04_simple2_w_spec (w : World) (rb rw F G s1 s2 : Value) (L1 L2 : List (El 16)) (x : El 16) (n : Int) (hb : Ring_b w rb) (hw : Ring_w w rw) (h1 : Sl w s1 (L1.map em16)) (h2 : Sl w s2 (L2.map em16)) (b1 : L1.length ≤ 70368744175616) (b2 : L2.length ≤ 70368744175616) :
    CallV Tryz.prog 17 [.agg #[rb, rw], .agg #[.int .i64 2, .bool true, F, G, .int .u16 (x.v.toNat : Int), .int .i64 n], s1, s2] w fun v w' => v = .bool true ∧ RowKit.Below w.heap.size w w' := by
  have m1 : (L1.map em16).length = L1.length := List.length_map ..
  have m2 : (L2.map em16).length = L2.length := List.length_map ..
  refine run_culletlaw04_simple (by simp) ?_
  simp only [c_culletlaw04_simple, WS, List.getElem_cons_zero, List.getElem_cons_succ, Option.isNone_some, Option.isNone_none, List.getD_cons_zero, List.getD_cons_succ, I.at, atL, atO, atP, evp, evs, retV, ↓reduceIte, Nat.reduceEqDiff, reduceCtorEq]
  refine X_box fun b w1 hr hlb hB => ?_
  have hr : Row w1 b [rb, rw] := hr
  have B := hB
  have hb := hb.up hB
  have hw := hw.up hB
  have h1 := h1.up hB
  have h2 := h2.up hB
  clear hB hlb
  simp (maxSteps := 1000000) (disch := omega) only [WS, List.getElem_cons_zero, List.getElem_cons_succ, Option.isNone_some, Option.isNone_none, List.getD_cons_zero, List.getD_cons_succ, I.at, atL, atO, atP, evp, evs, retV, ↓reduceIte, Nat.reduceEqDiff, reduceCtorEq, AS]
  refine X_box fun bo w2 hro hlb hB => ?_
  have hro : Row w2 bo [.int .i64 2, .bool true, F, G, .int .u16 (x.v.toNat : Int), .int .i64 n] := hro
  have hb := hb.up hB
  have hw := hw.up hB
  have h1 := h1.up hB
  have h2 := h2.up hB
  have hr := hr.up hB
  have B := B.trans (hB.mono B.size)
  clear hB
  clear hlb
  simp (maxSteps := 1000000) (disch := omega) only [WS, List.getElem_cons_zero, List.getElem_cons_succ, Option.isNone_some, Option.isNone_none, List.getD_cons_zero, List.getD_cons_succ, I.at, atL, atO, atP, evp, evs, retV, ↓reduceIte, Nat.reduceEqDiff, reduceCtorEq, AS, row6_0 hro, row6_1 hro, hr.Xldn (n := 2) rfl, show decide ((2 : Int) = 1) = false from rfl, show decide ((2 : Int) = 2) = true from rfl]
  refine X_call0 ((culletlaw04_Rings_add_w_spec w2 rb rw s1 s2 _ _ hb hw h1 h2 (by omega) (by omega)).mono ?_)
  rintro v w3 ⟨hB, m, om, tm, cm, lm⟩
  have om := om.sl
  rw [lo16_map_em16, lo16_map_em16] at cm
  rw [lo16_map_em16, lo16_map_em16] at lm
  have h1 := h1.up hB
  have h2 := h2.up hB
  have B := B.trans (hB.mono B.size)
  clear hB
  simp (maxSteps := 1000000) (disch := omega) only [WS, List.getElem_cons_zero, List.getElem_cons_succ, Option.isNone_some, Option.isNone_none, List.getD_cons_zero, List.getD_cons_succ, I.at, atL, atO, atP, evp, evs, retV, ↓reduceIte, Nat.reduceEqDiff, reduceCtorEq, AS]
  refine X_call0 ((culletref04_Addx_w_spec w3 s1 s2 _ _ h1 h2 (by omega) (by omega)).mono ?_)
  rintro v2 w4 ⟨m', om', tm', cm', lm', hB⟩
  have om' := om'.sl
  have om := om.up hB
  have B := B.trans (hB.mono B.size)
  clear hB
  have he : m = m' := tr_inj tm tm' (cm.trans cm'.symm)
  have hlm : (m.map em16).length = m.length := List.length_map ..
  have hlm' : (m'.map em16).length = m'.length := List.length_map ..
  simp (maxSteps := 1000000) (disch := omega) only [WS, List.getElem_cons_zero, List.getElem_cons_succ, Option.isNone_some, Option.isNone_none, List.getD_cons_zero, List.getD_cons_succ, I.at, atL, atO, atP, evp, evs, retV, ↓reduceIte, Nat.reduceEqDiff, reduceCtorEq, AS]
  refine X_call0 ((culletlaw04_same_spec w4 v v2 _ _ om om' (by omega) (by omega)).mono ?_)
  rintro _ w5 ⟨rfl, hk⟩
  have hB := hk.1
  have B := B.trans (hB.mono B.size)
  clear hB
  rw [decide_eq_true (congrArg (List.map em16) he)]
  simp (maxSteps := 1000000) (disch := omega) only [WS, List.getElem_cons_zero, List.getElem_cons_succ, Option.isNone_some, Option.isNone_none, List.getD_cons_zero, List.getD_cons_succ, I.at, atL, atO, atP, evp, evs, retV, ↓reduceIte, Nat.reduceEqDiff, reduceCtorEq, AS]
  exact B
theorem culletlaw04_simple4_w_spec (w : World) (rb rw F G s1 s2 : Value) (L1 L2 : List (El 16)) (x : El 16) (n : Int) (hb : Ring_b w rb) (hw : Ring_w w rw) (h1 : Sl w s1 (L1.map em16)) (h2 : Sl w s2 (L2.map em16)) (b1 : L1.length ≤ 70368744175616) (b2 : L2.length ≤ 70368744175616) :
    CallV Tryz.prog 17 [.agg #[rb, rw], .agg #[.int .i64 4, .bool true, F, G, .int .u16 (x.v.toNat : Int), .int .i64 n], s1, s2] w fun v w' => v = .bool true ∧ RowKit.Below w.heap.size w w' := by
  have m1 : (L1.map em16).length = L1.length := List.length_map ..
  refine run_culletlaw04_simple (by simp) ?_
  simp only [c_culletlaw04_simple, WS, List.getElem_cons_zero, List.getElem_cons_succ, Option.isNone_some, Option.isNone_none, List.getD_cons_zero, List.getD_cons_succ, I.at, atL, atO, atP, evp, evs, retV, ↓reduceIte, Nat.reduceEqDiff, reduceCtorEq]
  refine X_box fun b w1 hr hlb hB => ?_
  have hr : Row w1 b [rb, rw] := hr
  have B := hB
  have hb := hb.up hB
  have hw := hw.up hB
  have h1 := h1.up hB
  have h2 := h2.up hB
  clear hB hlb
  simp (maxSteps := 1000000) (disch := omega) only [WS, List.getElem_cons_zero, List.getElem_cons_succ, Option.isNone_some, Option.isNone_none, List.getD_cons_zero, List.getD_cons_succ, I.at, atL, atO, atP, evp, evs, retV, ↓reduceIte, Nat.reduceEqDiff, reduceCtorEq, AS]
  refine X_box fun bo w2 hro hlb hB => ?_
  have hro : Row w2 bo [.int .i64 4, .bool true, F, G, .int .u16 (x.v.toNat : Int), .int .i64 n] := hro
  have hb := hb.up hB
  have hw := hw.up hB
  have h1 := h1.up hB
  have h2 := h2.up hB
  have hr := hr.up hB
  have B := B.trans (hB.mono B.size)
  clear hB
  clear hlb
  simp (maxSteps := 1000000) (disch := omega) only [WS, List.getElem_cons_zero, List.getElem_cons_succ, Option.isNone_some, Option.isNone_none, List.getD_cons_zero, List.getD_cons_succ, I.at, atL, atO, atP, evp, evs, retV, ↓reduceIte, Nat.reduceEqDiff, reduceCtorEq, AS, row6_0 hro, row6_1 hro, hr.Xldn (n := 2) rfl, show decide ((4 : Int) = 1) = false from rfl, show decide ((4 : Int) = 2) = false from rfl, show decide ((4 : Int) = 3) = false from rfl]
  refine X_call0 ((culletlaw04_Rings_derivative_w_spec w2 rb rw s1 _ hb hw h1 (by omega)).mono ?_)
  rintro v w3 ⟨hB, m, om, tm, cm, lm⟩
  have om := om.sl
  rw [lo16_map_em16] at cm
  rw [lo16_map_em16] at lm
  have h1 := h1.up hB
  have h2 := h2.up hB
  have B := B.trans (hB.mono B.size)
  clear hB
  simp (maxSteps := 1000000) (disch := omega) only [WS, List.getElem_cons_zero, List.getElem_cons_succ, Option.isNone_some, Option.isNone_none, List.getD_cons_zero, List.getD_cons_succ, I.at, atL, atO, atP, evp, evs, retV, ↓reduceIte, Nat.reduceEqDiff, reduceCtorEq, AS]
  refine X_call0 ((culletref04_Derivative_spec w3 s1 _ h1 (by omega)).mono ?_)
  rintro v2 w4 ⟨m', om', tm', cm', hB⟩
  have om' := om'.sl
  have om := om.up hB
  have B := B.trans (hB.mono B.size)
  clear hB
  have he : m.map em16 = m' := tr_inj (by rw [tr_em16, tm]) tm' (Ps.ext fun k => by
    rw [cm', co_em16, cm]
    show em16 (if k % 2 = 0 then _ else _) = if k % 2 = 0 then _ else _
    split
    · rw [co_em16]
    · rfl)
  have hlm : (m.map em16).length = m.length := List.length_map ..
  have hlm' : m'.length = m.length := by rw [← he, hlm]
  simp (maxSteps := 1000000) (disch := omega) only [WS, List.getElem_cons_zero, List.getElem_cons_succ, Option.isNone_some, Option.isNone_none, List.getD_cons_zero, List.getD_cons_succ, I.at, atL, atO, atP, evp, evs, retV, ↓reduceIte, Nat.reduceEqDiff, reduceCtorEq, AS]
  refine X_call0 ((culletlaw04_same_spec w4 v v2 _ _ om om' (by omega) (by omega)).mono ?_)
  rintro _ w5 ⟨rfl, hk⟩
  have hB := hk.1
  have B := B.trans (hB.mono B.size)
  clear hB
  rw [decide_eq_true he]
  simp (maxSteps := 1000000) (disch := omega) only [WS, List.getElem_cons_zero, List.getElem_cons_succ, Option.isNone_some, Option.isNone_none, List.getD_cons_zero, List.getD_cons_succ, I.at, atL, atO, atP, evp, evs, retV, ↓reduceIte, Nat.reduceEqDiff, reduceCtorEq, AS]
  exact B
theorem culletlaw04_products5_w_spec (w : World) (rb rw F G s1 s2 : Value) (L1 L2 : List (El 16)) (x : El 16) (n : Int) (hb : Ring_b w rb) (hw : Ring_w w rw) (h1 : Sl w s1 (L1.map em16)) (h2 : Sl w s2 (L2.map em16)) (b1 : L1.length ≤ 70368744175616) (b2 : L2.length ≤ 70368744175616) :
    CallV Tryz.prog 18 [.agg #[rb, rw], .agg #[.int .i64 5, .bool true, F, G, .int .u16 (x.v.toNat : Int), .int .i64 n], s1, s2] w fun v w' => v = .bool true ∧ RowKit.Below w.heap.size w w' := by
  have m1 : (L1.map em16).length = L1.length := List.length_map ..
  have m2 : (L2.map em16).length = L2.length := List.length_map ..
  have dt : ∀ e : Int, decide (e = e) = true := fun e => decide_eq_true rfl
  refine run_culletlaw04_products (by simp) ?_
  simp only [c_culletlaw04_products, WS, List.getElem_cons_zero, List.getElem_cons_succ, Option.isNone_some, Option.isNone_none, List.getD_cons_zero, List.getD_cons_succ, I.at, atL, atO, atP, evp, evs, retV, ↓reduceIte, Nat.reduceEqDiff, reduceCtorEq]
  refine X_box fun b w1 hr hlb hB => ?_
  have hr : Row w1 b [rb, rw] := hr
  have B := hB
  have hb := hb.up hB
  have hw := hw.up hB
  have h1 := h1.up hB
  have h2 := h2.up hB
  clear hB hlb
  simp (maxSteps := 1000000) (disch := omega) only [WS, List.getElem_cons_zero, List.getElem_cons_succ, Option.isNone_some, Option.isNone_none, List.getD_cons_zero, List.getD_cons_succ, I.at, atL, atO, atP, evp, evs, retV, ↓reduceIte, Nat.reduceEqDiff, reduceCtorEq, AS]
  refine X_box fun bo w2 hro hlb hB => ?_
  have hro : Row w2 bo [.int .i64 5, .bool true, F, G, .int .u16 (x.v.toNat : Int), .int .i64 n] := hro
  have hb := hb.up hB
  have hw := hw.up hB
  have h1 := h1.up hB
  have h2 := h2.up hB
  have hr := hr.up hB
  have B := B.trans (hB.mono B.size)
  clear hB
  clear hlb
  simp (maxSteps := 1000000) (disch := omega) only [WS, List.getElem_cons_zero, List.getElem_cons_succ, Option.isNone_some, Option.isNone_none, List.getD_cons_zero, List.getD_cons_succ, I.at, atL, atO, atP, evp, evs, retV, ↓reduceIte, Nat.reduceEqDiff, reduceCtorEq, AS, row6_0 hro, row6_1 hro, hr.Xldn (n := 2) rfl, show decide ((5 : Int) = 5) = true from rfl]
  refine X_call0 ((culletlaw04_Rings_mul_w_spec w2 rb rw s1 s2 _ _ hb hw h1 h2 (by omega) (by omega)).mono ?_)
  rw [lo16_map_em16, lo16_map_em16]
  rintro _ w3 ⟨hB, ⟨q1, q2, s, m, rfl, om, tm, cm, lm⟩ | ⟨hn, s, rfl, om⟩⟩
  · have om := om.sl
    have h1 := h1.up hB
    have h2 := h2.up hB
    have hro := hro.up hB
    have B := B.trans (hB.mono B.size)
    clear hB
    simp (maxSteps := 1000000) (disch := omega) only [WS, List.getElem_cons_zero, List.getElem_cons_succ, Option.isNone_some, Option.isNone_none, List.getD_cons_zero, List.getD_cons_succ, I.at, atL, atO, atP, evp, evs, retV, ↓reduceIte, Nat.reduceEqDiff, reduceCtorEq, AS, row6_1 hro]
    refine X_call0 ((culletref04_Mulx_w_spec w3 s1 s2 _ _ h1 h2 (by omega) (by omega)).mono ?_)
    rintro _ w4 ⟨hB, ⟨-, -, s', m', rfl, om', tm', cm'⟩ | ⟨hn, -⟩⟩
    · have om' := om'.sl
      have om := om.up hB
      have B := B.trans (hB.mono B.size)
      clear hB
      have he : m = m' := tr_inj tm tm' (cm.trans cm'.symm)
      subst he
      have hlm : (m.map em16).length = m.length := List.length_map ..
      simp (maxSteps := 1000000) (disch := omega) only [WS, List.getElem_cons_zero, List.getElem_cons_succ, Option.isNone_some, Option.isNone_none, List.getD_cons_zero, List.getD_cons_succ, I.at, atL, atO, atP, evp, evs, retV, ↓reduceIte, Nat.reduceEqDiff, reduceCtorEq, AS, show decide ((0 : Int) = 0) = true from rfl]
      refine X_call0 ((culletlaw04_same_spec w4 s s' _ _ om om' (by omega) (by omega)).mono ?_)
      rintro _ w5 ⟨rfl, hk⟩
      have hB := hk.1
      have B := B.trans (hB.mono B.size)
      clear hB
      rw [decide_eq_true rfl]
      simp (maxSteps := 1000000) (disch := omega) only [WS, List.getElem_cons_zero, List.getElem_cons_succ, Option.isNone_some, Option.isNone_none, List.getD_cons_zero, List.getD_cons_succ, I.at, atL, atO, atP, evp, evs, retV, ↓reduceIte, Nat.reduceEqDiff, reduceCtorEq, AS]
      exact B
    · exact absurd ⟨by omega, by omega⟩ hn
  · have om := om.sl
    have h1 := h1.up hB
    have h2 := h2.up hB
    have hro := hro.up hB
    have B := B.trans (hB.mono B.size)
    clear hB
    simp (maxSteps := 1000000) (disch := omega) only [WS, List.getElem_cons_zero, List.getElem_cons_succ, Option.isNone_some, Option.isNone_none, List.getD_cons_zero, List.getD_cons_succ, I.at, atL, atO, atP, evp, evs, retV, ↓reduceIte, Nat.reduceEqDiff, reduceCtorEq, AS, row6_1 hro]
    refine X_call0 ((culletref04_Mulx_w_spec w3 s1 s2 _ _ h1 h2 (by omega) (by omega)).mono ?_)
    rintro _ w4 ⟨hB, ⟨q1, q2, -⟩ | ⟨-, rfl⟩⟩
    · exact absurd ⟨by omega, by omega⟩ hn
    · have om := om.up hB
      have B := B.trans (hB.mono B.size)
      clear hB
      simp (maxSteps := 1000000) (disch := omega) only [WS, List.getElem_cons_zero, List.getElem_cons_succ, Option.isNone_some, Option.isNone_none, List.getD_cons_zero, List.getD_cons_succ, I.at, atL, atO, atP, evp, evs, retV, ↓reduceIte, Nat.reduceEqDiff, reduceCtorEq, AS, show decide ((5 : Int) = 5) = true from rfl]
      refine X_call0 ((culletlaw04_same_spec w4 s _ _ _ om (Sl.nil (α := El 16) w4) (by simp) (by simp)).mono ?_)
      rintro _ w5 ⟨rfl, hk⟩
      have hB := hk.1
      have B := B.trans (hB.mono B.size)
      clear hB
      rw [decide_eq_true rfl]
      simp (maxSteps := 1000000) (disch := omega) only [WS, List.getElem_cons_zero, List.getElem_cons_succ, Option.isNone_some, Option.isNone_none, List.getD_cons_zero, List.getD_cons_succ, I.at, atL, atO, atP, evp, evs, retV, ↓reduceIte, Nat.reduceEqDiff, reduceCtorEq, AS]
      exact B
theorem culletlaw04_products7_w_spec (w : World) (rb rw F G s1 s2 : Value) (L1 L2 : List (El 16)) (x : El 16) (n : Int) (hb : Ring_b w rb) (hw : Ring_w w rw) (h1 : Sl w s1 (L1.map em16)) (h2 : Sl w s2 (L2.map em16)) (b1 : L1.length ≤ 70368744175616) (b2 : L2.length ≤ 70368744175616) :
    CallV Tryz.prog 18 [.agg #[rb, rw], .agg #[.int .i64 7, .bool true, F, G, .int .u16 (x.v.toNat : Int), .int .i64 n], s1, s2] w fun v w' => v = .bool true ∧ RowKit.Below w.heap.size w w' := by
  have m1 : (L1.map em16).length = L1.length := List.length_map ..
  have m2 : (L2.map em16).length = L2.length := List.length_map ..
  have dt : ∀ e : Int, decide (e = e) = true := fun e => decide_eq_true rfl
  refine run_culletlaw04_products (by simp) ?_
  simp only [c_culletlaw04_products, WS, List.getElem_cons_zero, List.getElem_cons_succ, Option.isNone_some, Option.isNone_none, List.getD_cons_zero, List.getD_cons_succ, I.at, atL, atO, atP, evp, evs, retV, ↓reduceIte, Nat.reduceEqDiff, reduceCtorEq]
  refine X_box fun b w1 hr hlb hB => ?_
  have hr : Row w1 b [rb, rw] := hr
  have B := hB
  have hb := hb.up hB
  have hw := hw.up hB
  have h1 := h1.up hB
  have h2 := h2.up hB
  clear hB hlb
  simp (maxSteps := 1000000) (disch := omega) only [WS, List.getElem_cons_zero, List.getElem_cons_succ, Option.isNone_some, Option.isNone_none, List.getD_cons_zero, List.getD_cons_succ, I.at, atL, atO, atP, evp, evs, retV, ↓reduceIte, Nat.reduceEqDiff, reduceCtorEq, AS]
  refine X_box fun bo w2 hro hlb hB => ?_
  have hro : Row w2 bo [.int .i64 7, .bool true, F, G, .int .u16 (x.v.toNat : Int), .int .i64 n] := hro
  have hb := hb.up hB
  have hw := hw.up hB
  have h1 := h1.up hB
  have h2 := h2.up hB
  have hr := hr.up hB
  have B := B.trans (hB.mono B.size)
  clear hB
  clear hlb
  simp (maxSteps := 1000000) (disch := omega) only [WS, List.getElem_cons_zero, List.getElem_cons_succ, Option.isNone_some, Option.isNone_none, List.getD_cons_zero, List.getD_cons_succ, I.at, atL, atO, atP, evp, evs, retV, ↓reduceIte, Nat.reduceEqDiff, reduceCtorEq, AS, row6_0 hro, row6_1 hro, hr.Xldn (n := 2) rfl, show decide ((7 : Int) = 5) = false from rfl, show decide ((7 : Int) = 7) = true from rfl]
  refine X_call0 ((culletlaw04_Rings_gcd_w_spec w2 rb rw s1 s2 _ _ hb hw h1 h2 (by omega) (by omega)).mono ?_)
  rw [lo16_map_em16, lo16_map_em16]
  rintro _ w3 ⟨hB, ⟨q1, q2, s, m, rfl, om, tm, d1, d2, e, hm, lm⟩ | ⟨hn, s, rfl, om⟩⟩
  · have om := om.sl
    have h1 := h1.up hB
    have h2 := h2.up hB
    have hro := hro.up hB
    have B := B.trans (hB.mono B.size)
    clear hB
    simp (maxSteps := 1000000) (disch := omega) only [WS, List.getElem_cons_zero, List.getElem_cons_succ, Option.isNone_some, Option.isNone_none, List.getD_cons_zero, List.getD_cons_succ, I.at, atL, atO, atP, evp, evs, retV, ↓reduceIte, Nat.reduceEqDiff, reduceCtorEq, AS, row6_1 hro]
    refine X_call0 ((culletref04_Gcd_w_spec w3 s1 s2 _ _ h1 h2 (by omega) (by omega)).mono ?_)
    rintro _ w4 ⟨hB, ⟨-, -, s', m', rfl, om', tm', d1', d2', e', hm', lm'⟩ | ⟨hn, -⟩⟩
    · have om' := om'.sl
      have om := om.up hB
      have B := B.trans (hB.mono B.size)
      clear hB
      have he : m = m' := gcd_uniq tm tm' d1 d2 d1' d2' e e' hm hm'
      subst he
      have hlm : (m.map em16).length = m.length := List.length_map ..
      simp (maxSteps := 1000000) (disch := omega) only [WS, List.getElem_cons_zero, List.getElem_cons_succ, Option.isNone_some, Option.isNone_none, List.getD_cons_zero, List.getD_cons_succ, I.at, atL, atO, atP, evp, evs, retV, ↓reduceIte, Nat.reduceEqDiff, reduceCtorEq, AS, show decide ((0 : Int) = 0) = true from rfl]
      refine X_call0 ((culletlaw04_same_spec w4 s s' _ _ om om' (by omega) (by omega)).mono ?_)
      rintro _ w5 ⟨rfl, hk⟩
      have hB := hk.1
      have B := B.trans (hB.mono B.size)
      clear hB
      rw [decide_eq_true rfl]
      simp (maxSteps := 1000000) (disch := omega) only [WS, List.getElem_cons_zero, List.getElem_cons_succ, Option.isNone_some, Option.isNone_none, List.getD_cons_zero, List.getD_cons_succ, I.at, atL, atO, atP, evp, evs, retV, ↓reduceIte, Nat.reduceEqDiff, reduceCtorEq, AS]
      exact B
    · exact absurd ⟨by omega, by omega⟩ hn
  · have om := om.sl
    have h1 := h1.up hB
    have h2 := h2.up hB
    have hro := hro.up hB
    have B := B.trans (hB.mono B.size)
    clear hB
    simp (maxSteps := 1000000) (disch := omega) only [WS, List.getElem_cons_zero, List.getElem_cons_succ, Option.isNone_some, Option.isNone_none, List.getD_cons_zero, List.getD_cons_succ, I.at, atL, atO, atP, evp, evs, retV, ↓reduceIte, Nat.reduceEqDiff, reduceCtorEq, AS, row6_1 hro]
    refine X_call0 ((culletref04_Gcd_w_spec w3 s1 s2 _ _ h1 h2 (by omega) (by omega)).mono ?_)
    rintro _ w4 ⟨hB, ⟨q1, q2, -⟩ | ⟨-, rfl⟩⟩
    · exact absurd ⟨by omega, by omega⟩ hn
    · have om := om.up hB
      have B := B.trans (hB.mono B.size)
      clear hB
      simp (maxSteps := 1000000) (disch := omega) only [WS, List.getElem_cons_zero, List.getElem_cons_succ, Option.isNone_some, Option.isNone_none, List.getD_cons_zero, List.getD_cons_succ, I.at, atL, atO, atP, evp, evs, retV, ↓reduceIte, Nat.reduceEqDiff, reduceCtorEq, AS, show decide ((5 : Int) = 5) = true from rfl]
      refine X_call0 ((culletlaw04_same_spec w4 s _ _ _ om (Sl.nil (α := El 16) w4) (by simp) (by simp)).mono ?_)
      rintro _ w5 ⟨rfl, hk⟩
      have hB := hk.1
      have B := B.trans (hB.mono B.size)
      clear hB
      rw [decide_eq_true rfl]
      simp (maxSteps := 1000000) (disch := omega) only [WS, List.getElem_cons_zero, List.getElem_cons_succ, Option.isNone_some, Option.isNone_none, List.getD_cons_zero, List.getD_cons_succ, I.at, atL, atO, atP, evp, evs, retV, ↓reduceIte, Nat.reduceEqDiff, reduceCtorEq, AS]
      exact B
theorem culletlaw04_products6_w_spec (w : World) (rb rw F G s1 s2 : Value) (L1 L2 : List (El 16)) (x : El 16) (n : Int) (hb : Ring_b w rb) (hw : Ring_w w rw) (h1 : Sl w s1 (L1.map em16)) (h2 : Sl w s2 (L2.map em16)) (b1 : L1.length ≤ 70368744175616) (b2 : L2.length ≤ 70368744175616) :
    CallV Tryz.prog 18 [.agg #[rb, rw], .agg #[.int .i64 6, .bool true, F, G, .int .u16 (x.v.toNat : Int), .int .i64 n], s1, s2] w fun v w' => v = .bool true ∧ RowKit.Below w.heap.size w w' := by
  have m1 : (L1.map em16).length = L1.length := List.length_map ..
  have m2 : (L2.map em16).length = L2.length := List.length_map ..
  have l1' := tln_le L1
  have l2' := tln_le L2
  refine run_culletlaw04_products (by simp) ?_
  simp only [c_culletlaw04_products, WS, List.getElem_cons_zero, List.getElem_cons_succ, Option.isNone_some, Option.isNone_none, List.getD_cons_zero, List.getD_cons_succ, I.at, atL, atO, atP, evp, evs, retV, ↓reduceIte, Nat.reduceEqDiff, reduceCtorEq]
  refine X_box fun b w1 hr hlb hB => ?_
  have hr : Row w1 b [rb, rw] := hr
  have B := hB
  have hb := hb.up hB
  have hw := hw.up hB
  have h1 := h1.up hB
  have h2 := h2.up hB
  clear hB hlb
  simp (maxSteps := 1000000) (disch := omega) only [WS, List.getElem_cons_zero, List.getElem_cons_succ, Option.isNone_some, Option.isNone_none, List.getD_cons_zero, List.getD_cons_succ, I.at, atL, atO, atP, evp, evs, retV, ↓reduceIte, Nat.reduceEqDiff, reduceCtorEq, AS]
  refine X_box fun bo w2 hro hlb hB => ?_
  have hro : Row w2 bo [.int .i64 6, .bool true, F, G, .int .u16 (x.v.toNat : Int), .int .i64 n] := hro
  have hb := hb.up hB
  have hw := hw.up hB
  have h1 := h1.up hB
  have h2 := h2.up hB
  have hr := hr.up hB
  have B := B.trans (hB.mono B.size)
  clear hB
  clear hlb
  simp (maxSteps := 1000000) (disch := omega) only [WS, List.getElem_cons_zero, List.getElem_cons_succ, Option.isNone_some, Option.isNone_none, List.getD_cons_zero, List.getD_cons_succ, I.at, atL, atO, atP, evp, evs, retV, ↓reduceIte, Nat.reduceEqDiff, reduceCtorEq, AS, row6_0 hro, row6_1 hro, hr.Xldn (n := 2) rfl, show decide ((6 : Int) = 5) = false from rfl, show decide ((6 : Int) = 7) = false from rfl]
  refine X_call0 ((culletlaw04_Rings_divMod_w_spec w2 rb rw s1 s2 _ _ hb hw h1 h2 (by omega) (by omega)).mono ?_)
  rw [lo16_map_em16, lo16_map_em16]
  rintro _ w3 ⟨hB, ⟨q1, q2, hz, sq, sm, q, m, rfl, oq, om, tq, tm, cm, lm, lq⟩ | ⟨q1, q2, hz, sq, sm, rfl, oq, om⟩ | ⟨hn, sq, sm, rfl, oq, om⟩⟩
  · have om := om.sl
    have oq := oq.sl
    have h1 := h1.up hB
    have h2 := h2.up hB
    have hro := hro.up hB
    have B := B.trans (hB.mono B.size)
    clear hB
    simp (maxSteps := 1000000) (disch := omega) only [WS, List.getElem_cons_zero, List.getElem_cons_succ, Option.isNone_some, Option.isNone_none, List.getD_cons_zero, List.getD_cons_succ, I.at, atL, atO, atP, evp, evs, retV, ↓reduceIte, Nat.reduceEqDiff, reduceCtorEq, AS, row6_1 hro]
    refine X_call0 ((culletref04_DivMod_w_spec w3 s1 s2 _ _ h1 h2 (by omega) (by omega)).mono ?_)
    rintro _ w4 ⟨hB, ⟨-, -, -, sq', sm', q', m', rfl, oq', om', tq', tm', cm', lm', lq'⟩ | ⟨-, -, hz', -⟩ | ⟨hn, -⟩⟩
    · have om' := om'.sl
      have oq' := oq'.sl
      have om := om.up hB
      have oq := oq.up hB
      have B := B.trans (hB.mono B.size)
      clear hB
      obtain ⟨rfl, rfl⟩ := div_uniq tq tm tq' tm' cm cm' lm lm'
      have hlm : (m.map em16).length = m.length := List.length_map ..
      have hlq : (q.map em16).length = q.length := List.length_map ..
      simp (maxSteps := 1000000) (disch := omega) only [WS, List.getElem_cons_zero, List.getElem_cons_succ, Option.isNone_some, Option.isNone_none, List.getD_cons_zero, List.getD_cons_succ, I.at, atL, atO, atP, evp, evs, retV, ↓reduceIte, Nat.reduceEqDiff, reduceCtorEq, AS, show decide ((0 : Int) = 0) = true from rfl]
      refine X_call0 ((culletlaw04_same_spec w4 sq sq' _ _ oq oq' (by omega) (by omega)).mono ?_)
      rintro _ w5 ⟨rfl, hk⟩
      have hB := hk.1
      have om := om.up hB
      have om' := om'.up hB
      have B := B.trans (hB.mono B.size)
      clear hB
      rw [decide_eq_true rfl]
      simp (maxSteps := 1000000) (disch := omega) only [WS, List.getElem_cons_zero, List.getElem_cons_succ, Option.isNone_some, Option.isNone_none, List.getD_cons_zero, List.getD_cons_succ, I.at, atL, atO, atP, evp, evs, retV, ↓reduceIte, Nat.reduceEqDiff, reduceCtorEq, AS]
      refine X_call0 ((culletlaw04_same_spec w5 sm sm' _ _ om om' (by omega) (by omega)).mono ?_)
      rintro _ w6 ⟨rfl, hk⟩
      have hB := hk.1
      have B := B.trans (hB.mono B.size)
      clear hB
      rw [decide_eq_true rfl]
      simp (maxSteps := 1000000) (disch := omega) only [WS, List.getElem_cons_zero, List.getElem_cons_succ, Option.isNone_some, Option.isNone_none, List.getD_cons_zero, List.getD_cons_succ, I.at, atL, atO, atP, evp, evs, retV, ↓reduceIte, Nat.reduceEqDiff, reduceCtorEq, AS]
      exact B
    · exact absurd hz' hz
    · exact absurd ⟨by omega, by omega⟩ hn
  · have om := om.sl
    have oq := oq.sl
    have h1 := h1.up hB
    have h2 := h2.up hB
    have hro := hro.up hB
    have B := B.trans (hB.mono B.size)
    clear hB
    simp (maxSteps := 1000000) (disch := omega) only [WS, List.getElem_cons_zero, List.getElem_cons_succ, Option.isNone_some, Option.isNone_none, List.getD_cons_zero, List.getD_cons_succ, I.at, atL, atO, atP, evp, evs, retV, ↓reduceIte, Nat.reduceEqDiff, reduceCtorEq, AS, row6_1 hro]
    refine X_call0 ((culletref04_DivMod_w_spec w3 s1 s2 _ _ h1 h2 (by omega) (by omega)).mono ?_)
    rintro _ w4 ⟨hB, ⟨-, -, hz', -⟩ | ⟨-, -, -, rfl⟩ | ⟨hn, -⟩⟩
    · exact absurd hz hz'
    · have om := om.up hB
      have oq := oq.up hB
      have B := B.trans (hB.mono B.size)
      clear hB
      simp (maxSteps := 1000000) (disch := omega) only [WS, List.getElem_cons_zero, List.getElem_cons_succ, Option.isNone_some, Option.isNone_none, List.getD_cons_zero, List.getD_cons_succ, I.at, atL, atO, atP, evp, evs, retV, ↓reduceIte, Nat.reduceEqDiff, reduceCtorEq, AS, show decide ((40 : Int) = 40) = true from rfl]
      refine X_call0 ((culletlaw04_same_spec w4 sq _ _ _ oq (Sl.nil (α := El 16) w4) (by simp) (by simp)).mono ?_)
      rintro _ w5 ⟨rfl, hk⟩
      have hB := hk.1
      have om := om.up hB
      have B := B.trans (hB.mono B.size)
      clear hB
      rw [decide_eq_true rfl]
      simp (maxSteps := 1000000) (disch := omega) only [WS, List.getElem_cons_zero, List.getElem_cons_succ, Option.isNone_some, Option.isNone_none, List.getD_cons_zero, List.getD_cons_succ, I.at, atL, atO, atP, evp, evs, retV, ↓reduceIte, Nat.reduceEqDiff, reduceCtorEq, AS]
      refine X_call0 ((culletlaw04_same_spec w5 sm _ _ _ om (Sl.nil (α := El 16) w5) (by simp) (by simp)).mono ?_)
      rintro _ w6 ⟨rfl, hk⟩
      have hB := hk.1
      have B := B.trans (hB.mono B.size)
      clear hB
      rw [decide_eq_true rfl]
      simp (maxSteps := 1000000) (disch := omega) only [WS, List.getElem_cons_zero, List.getElem_cons_succ, Option.isNone_some, Option.isNone_none, List.getD_cons_zero, List.getD_cons_succ, I.at, atL, atO, atP, evp, evs, retV, ↓reduceIte, Nat.reduceEqDiff, reduceCtorEq, AS]
      exact B
    · exact absurd ⟨by omega, by omega⟩ hn
  · have om := om.sl
    have oq := oq.sl
    have h1 := h1.up hB
    have h2 := h2.up hB
    have hro := hro.up hB
    have B := B.trans (hB.mono B.size)
    clear hB
    simp (maxSteps := 1000000) (disch := omega) only [WS, List.getElem_cons_zero, List.getElem_cons_succ, Option.isNone_some, Option.isNone_none, List.getD_cons_zero, List.getD_cons_succ, I.at, atL, atO, atP, evp, evs, retV, ↓reduceIte, Nat.reduceEqDiff, reduceCtorEq, AS, row6_1 hro]
    refine X_call0 ((culletref04_DivMod_w_spec w3 s1 s2 _ _ h1 h2 (by omega) (by omega)).mono ?_)
    rintro _ w4 ⟨hB, ⟨q1, q2, -⟩ | ⟨q1, q2, -⟩ | ⟨-, rfl⟩⟩
    · exact absurd ⟨by omega, by omega⟩ hn
    · exact absurd ⟨by omega, by omega⟩ hn
    · have om := om.up hB
      have oq := oq.up hB
      have B := B.trans (hB.mono B.size)
      clear hB
      simp (maxSteps := 1000000) (disch := omega) only [WS, List.getElem_cons_zero, List.getElem_cons_succ, Option.isNone_some, Option.isNone_none, List.getD_cons_zero, List.getD_cons_succ, I.at, atL, atO, atP, evp, evs, retV, ↓reduceIte, Nat.reduceEqDiff, reduceCtorEq, AS, show decide ((5 : Int) = 5) = true from rfl]
      refine X_call0 ((culletlaw04_same_spec w4 sq _ _ _ oq (Sl.nil (α := El 16) w4) (by simp) (by simp)).mono ?_)
      rintro _ w5 ⟨rfl, hk⟩
      have hB := hk.1
      have om := om.up hB
      have B := B.trans (hB.mono B.size)
      clear hB
      rw [decide_eq_true rfl]
      simp (maxSteps := 1000000) (disch := omega) only [WS, List.getElem_cons_zero, List.getElem_cons_succ, Option.isNone_some, Option.isNone_none, List.getD_cons_zero, List.getD_cons_succ, I.at, atL, atO, atP, evp, evs, retV, ↓reduceIte, Nat.reduceEqDiff, reduceCtorEq, AS]
      refine X_call0 ((culletlaw04_same_spec w5 sm _ _ _ om (Sl.nil (α := El 16) w5) (by simp) (by simp)).mono ?_)
      rintro _ w6 ⟨rfl, hk⟩
      have hB := hk.1
      have B := B.trans (hB.mono B.size)
      clear hB
      rw [decide_eq_true rfl]
      simp (maxSteps := 1000000) (disch := omega) only [WS, List.getElem_cons_zero, List.getElem_cons_succ, Option.isNone_some, Option.isNone_none, List.getD_cons_zero, List.getD_cons_succ, I.at, atL, atO, atP, evp, evs, retV, ↓reduceIte, Nat.reduceEqDiff, reduceCtorEq, AS]
      exact B
end Go.Proofs.YtcdagkcchfibjaaGreat.Fw

namespace Go.Proofs.YtcdagkcchfibjaaGreat.Fw
open Go Go.Fw
theorem culletlaw04_simple1_b_spec (w : World) (rb rw F G s1 s2 : Value) (L1 L2 : List (El 8)) (x : El 16) (n : Int) (hb : Ring_b w rb) (hw : Ring_w w rw) (h1 : Sl w s1 (L1.map em8)) (h2 : Sl w s2 (L2.map em8)) (b1 : L1.length ≤ 70368744175616) (b2 : L2.length ≤ 70368744175616) :
    CallV Tryz.prog 17 [.agg #[rb, rw], .agg #[.int .i64 1, .bool false, F, G, .int .u16 (x.v.toNat : Int), .int .i64 n], s1, s2] w fun v w' => v = .bool true ∧ RowKit.Below w.heap.size w w' := by
  have m1 : (L1.map em8).length = L1.length := List.length_map ..
  have dt : ∀ e : Int, decide (e = e) = true := fun e => decide_eq_true rfl
  refine run_culletlaw04_simple (by simp) ?_
  simp only [c_culletlaw04_simple, WS, List.getElem_cons_zero, List.getElem_cons_succ, Option.isNone_some, Option.isNone_none, List.getD_cons_zero, List.getD_cons_succ, I.at, atL, atO, atP, evp, evs, retV, ↓reduceIte, Nat.reduceEqDiff, reduceCtorEq]
  refine X_box fun b w1 hr hlb hB => ?_
  have hr : Row w1 b [rb, rw] := hr
  have B := hB
  have hb := hb.up hB
  have hw := hw.up hB
  have h1 := h1.up hB
  have h2 := h2.up hB
  clear hB hlb
  simp (maxSteps := 1000000) (disch := omega) only [WS, List.getElem_cons_zero, List.getElem_cons_succ, Option.isNone_some, Option.isNone_none, List.getD_cons_zero, List.getD_cons_succ, I.at, atL, atO, atP, evp, evs, retV, ↓reduceIte, Nat.reduceEqDiff, reduceCtorEq, AS]
  refine X_box fun bo w2 hro hlb hB => ?_
  have hro : Row w2 bo [.int .i64 1, .bool false, F, G, .int .u16 (x.v.toNat : Int), .int .i64 n] := hro
  have hb := hb.up hB
  have hw := hw.up hB
  have h1 := h1.up hB
  have h2 := h2.up hB
  have hr := hr.up hB
  have B := B.trans (hB.mono B.size)
  clear hB
  clear hlb
  simp (maxSteps := 1000000) (disch := omega) only [WS, List.getElem_cons_zero, List.getElem_cons_succ, Option.isNone_some, Option.isNone_none, List.getD_cons_zero, List.getD_cons_succ, I.at, atL, atO, atP, evp, evs, retV, ↓reduceIte, Nat.reduceEqDiff, reduceCtorEq, AS, row6_0 hro, row6_1 hro, hr.Xldn (n := 2) rfl, show decide ((1 : Int) = 1) = true from rfl]
  refine X_call0 ((culletlaw04_Rings_trim_b_spec w2 rb rw s1 _ hb hw h1 (by omega)).mono ?_)
  rintro v w3 ⟨hB, m, om, tm, cm, lm⟩
  have om := om.sl
  rw [lo8_map_em8] at cm
  rw [lo8_map_em8] at lm
  have hb := hb.up hB
  have hw := hw.up hB
  have h1 := h1.up hB
  have h2 := h2.up hB
  have hr := hr.up hB
  have hro := hro.up hB
  have B := B.trans (hB.mono B.size)
  clear hB
  simp (maxSteps := 1000000) (disch := omega) only [WS, List.getElem_cons_zero, List.getElem_cons_succ, Option.isNone_some, Option.isNone_none, List.getD_cons_zero, List.getD_cons_succ, I.at, atL, atO, atP, evp, evs, retV, ↓reduceIte, Nat.reduceEqDiff, reduceCtorEq, AS]
  refine X_call0 ((culletref04_Trim_spec w3 s1 _ h1 (by omega)).mono ?_)
  rintro v2 w4 ⟨o2, hB⟩
  have o2 := o2.sl
  have hb := hb.up hB
  have hw := hw.up hB
  have h1 := h1.up hB
  have h2 := h2.up hB
  have hr := hr.up hB
  have hro := hro.up hB
  have om := om.up hB
  have B := B.trans (hB.mono B.size)
  clear hB
  have he : m.map em8 = tr (L1.map em8) := by
    rw [tr_em8, ← tm, tr_eq cm]
  have hlm : (m.map em8).length = m.length := List.length_map ..
  have hlt : (tr (L1.map em8)).length ≤ L1.length := by rw [← he, hlm]; exact lm
  simp (maxSteps := 1000000) (disch := omega) only [WS, List.getElem_cons_zero, List.getElem_cons_succ, Option.isNone_some, Option.isNone_none, List.getD_cons_zero, List.getD_cons_succ, I.at, atL, atO, atP, evp, evs, retV, ↓reduceIte, Nat.reduceEqDiff, reduceCtorEq, AS]
  refine X_call0 ((culletlaw04_same_spec w4 v v2 _ _ om o2 (by omega) (by omega)).mono ?_)
  rintro _ w5 ⟨rfl, hk⟩
  have hB := hk.1
  have hb := hb.up hB
  have hw := hw.up hB
  have h1 := h1.up hB
  have h2 := h2.up hB
  have hr := hr.up hB
  have hro := hro.up hB
  have B := B.trans (hB.mono B.size)
  clear hB
  rw [decide_eq_true he]
  simp (maxSteps := 1000000) (disch := omega) only [WS, List.getElem_cons_zero, List.getElem_cons_succ, Option.isNone_some, Option.isNone_none, List.getD_cons_zero, List.getD_cons_succ, I.at, atL, atO, atP, evp, evs, retV, ↓reduceIte, Nat.reduceEqDiff, reduceCtorEq, AS, row6_1 hro, hr.Xldn (n := 2) rfl]
  refine X_call0 ((culletlaw04_Rings_degree_b_spec w5 rb rw s1 _ hb hw h1 (by omega)).mono ?_)
  rintro _ w6 ⟨hB, rfl⟩
  have hb := hb.up hB
  have hw := hw.up hB
  have h1 := h1.up hB
  have h2 := h2.up hB
  have hr := hr.up hB
  have hro := hro.up hB
  have B := B.trans (hB.mono B.size)
  clear hB
  rw [lo8_map_em8]
  simp (maxSteps := 1000000) (disch := omega) only [WS, List.getElem_cons_zero, List.getElem_cons_succ, Option.isNone_some, Option.isNone_none, List.getD_cons_zero, List.getD_cons_succ, I.at, atL, atO, atP, evp, evs, retV, ↓reduceIte, Nat.reduceEqDiff, reduceCtorEq, AS]
  refine X_call0 ((culletref04_Degree_spec w6 s1 _ h1 (by omega)).mono ?_)
  rintro _ w7 ⟨rfl, rfl⟩
  rw [tln_em8x]
  simp (maxSteps := 1000000) (disch := omega) only [WS, List.getElem_cons_zero, List.getElem_cons_succ, Option.isNone_some, Option.isNone_none, List.getD_cons_zero, List.getD_cons_succ, I.at, atL, atO, atP, evp, evs, retV, ↓reduceIte, Nat.reduceEqDiff, reduceCtorEq, AS, dt]
  exact B
theorem culletlaw04_simple2_b_spec (w : World) (rb rw F G s1 s2 : Value) (L1 L2 : List (El 8)) (x : El 16) (n : Int) (hb : Ring_b w rb) (hw : Ring_w w rw) (h1 : Sl w s1 (L1.map em8)) (h2 : Sl w s2 (L2.map em8)) (b1 : L1.length ≤ 70368744175616) (b2 : L2.length ≤ 70368744175616) :
    CallV Tryz.prog 17 [.agg #[rb, rw], .agg #[.int .i64 2, .bool false, F, G, .int .u16 (x.v.toNat : Int), .int .i64 n], s1, s2] w fun v w' => v = .bool true ∧ RowKit.Below w.heap.size w w' := by
  have m1 : (L1.map em8).length = L1.length := List.length_map ..
  have m2 : (L2.map em8).length = L2.length := List.length_map ..
  refine run_culletlaw04_simple (by simp) ?_
  simp only [c_culletlaw04_simple, WS, List.getElem_cons_zero, List.getElem_cons_succ, Option.isNone_some, Option.isNone_none, List.getD_cons_zero, List.getD_cons_succ, I.at, atL, atO, atP, evp, evs, retV, ↓reduceIte, Nat.reduceEqDiff, reduceCtorEq]
  refine X_box fun b w1 hr hlb hB => ?_
  have hr : Row w1 b [rb, rw] := hr
  have B := hB
  have hb := hb.up hB
  have hw := hw.up hB
  have h1 := h1.up hB
  have h2 := h2.up hB
  clear hB hlb
  simp (maxSteps := 1000000) (disch := omega) only [WS, List.getElem_cons_zero, List.getElem_cons_succ, Option.isNone_some, Option.isNone_none, List.getD_cons_zero, List.getD_cons_succ, I.at, atL, atO, atP, evp, evs, retV, ↓reduceIte, Nat.reduceEqDiff, reduceCtorEq, AS]
  refine X_box fun bo w2 hro hlb hB => ?_
  have hro : Row w2 bo [.int .i64 2, .bool false, F, G, .int .u16 (x.v.toNat : Int), .int .i64 n] := hro
  have hb := hb.up hB
  have hw := hw.up hB
  have h1 := h1.up hB
  have h2 := h2.up hB
  have hr := hr.up hB
  have B := B.trans (hB.mono B.size)
  clear hB
  clear hlb
  simp (maxSteps := 1000000) (disch := omega) only [WS, List.getElem_cons_zero, List.getElem_cons_succ, Option.isNone_some, Option.isNone_none, List.getD_cons_zero, List.getD_cons_succ, I.at, atL, atO, atP, evp, evs, retV, ↓reduceIte, Nat.reduceEqDiff, reduceCtorEq, AS, row6_0 hro, row6_1 hro, hr.Xldn (n := 2) rfl, show decide ((2 : Int) = 1) = false from rfl, show decide ((2 : Int) = 2) = true from rfl]
  refine X_call0 ((culletlaw04_Rings_add_b_spec w2 rb rw s1 s2 _ _ hb hw h1 h2 (by omega) (by omega)).mono ?_)
  rintro v w3 ⟨hB, m, om, tm, cm, lm⟩
  have om := om.sl
  rw [lo8_map_em8, lo8_map_em8] at cm
  rw [lo8_map_em8, lo8_map_em8] at lm
  have h1 := h1.up hB
  have h2 := h2.up hB
  have B := B.trans (hB.mono B.size)
  clear hB
  simp (maxSteps := 1000000) (disch := omega) only [WS, List.getElem_cons_zero, List.getElem_cons_succ, Option.isNone_some, Option.isNone_none, List.getD_cons_zero, List.getD_cons_succ, I.at, atL, atO, atP, evp, evs, retV, ↓reduceIte, Nat.reduceEqDiff, reduceCtorEq, AS]
  refine X_call0 ((culletref04_Addx_b_spec w3 s1 s2 _ _ h1 h2 (by omega) (by omega)).mono ?_)
  rintro v2 w4 ⟨m', om', tm', cm', lm', hB⟩
  have om' := om'.sl
  have om := om.up hB
  have B := B.trans (hB.mono B.size)
  clear hB
  have he : m = m' := tr_inj tm tm' (cm.trans cm'.symm)
  have hlm : (m.map em8).length = m.length := List.length_map ..
  have hlm' : (m'.map em8).length = m'.length := List.length_map ..
  simp (maxSteps := 1000000) (disch := omega) only [WS, List.getElem_cons_zero, List.getElem_cons_succ, Option.isNone_some, Option.isNone_none, List.getD_cons_zero, List.getD_cons_succ, I.at, atL, atO, atP, evp, evs, retV, ↓reduceIte, Nat.reduceEqDiff, reduceCtorEq, AS]
  refine X_call0 ((culletlaw04_same_spec w4 v v2 _ _ om om' (by omega) (by omega)).mono ?_)
  rintro _ w5 ⟨rfl, hk⟩
  have hB := hk.1
  have B := B.trans (hB.mono B.size)
  clear hB
  rw [decide_eq_true (congrArg (List.map em8) he)]
  simp (maxSteps := 1000000) (disch := omega) only [WS, List.getElem_cons_zero, List.getElem_cons_succ, Option.isNone_some, Option.isNone_none, List.getD_cons_zero, List.getD_cons_succ, I.at, atL, atO, atP, evp, evs, retV, ↓reduceIte, Nat.reduceEqDiff, reduceCtorEq, AS]
  exact B
theorem culletlaw04_simple4_b_spec (w : World) (rb rw F G s1 s2 : Value) (L1 L2 : List (El 8)) (x : El 16) (n : Int) (hb : Ring_b w rb) (hw : Ring_w w rw) (h1 : Sl w s1 (L1.map em8)) (h2 : Sl w s2 (L2.map em8)) (b1 : L1.length ≤ 70368744175616) (b2 : L2.length ≤ 70368744175616) :
    CallV Tryz.prog 17 [.agg #[rb, rw], .agg #[.int .i64 4, .bool false, F, G, .int .u16 (x.v.toNat : Int), .int .i64 n], s1, s2] w fun v w' => v = .bool true ∧ RowKit.Below w.heap.size w w' := by
  have m1 : (L1.map em8).length = L1.length := List.length_map ..
  refine run_culletlaw04_simple (by simp) ?_
  simp only [c_culletlaw04_simple, WS, List.getElem_cons_zero, List.getElem_cons_succ, Option.isNone_some, Option.isNone_none, List.getD_cons_zero, List.getD_cons_succ, I.at, atL, atO, atP, evp, evs, retV, ↓reduceIte, Nat.reduceEqDiff, reduceCtorEq]
  refine X_box fun b w1 hr hlb hB => ?_
  have hr : Row w1 b [rb, rw] := hr
  have B := hB
  have hb := hb.up hB
  have hw := hw.up hB
  have h1 := h1.up hB
  have h2 := h2.up hB
  clear hB hlb
  simp (maxSteps := 1000000) (disch := omega) only [WS, List.getElem_cons_zero, List.getElem_cons_succ, Option.isNone_some, Option.isNone_none, List.getD_cons_zero, List.getD_cons_succ, I.at, atL, atO, atP, evp, evs, retV, ↓reduceIte, Nat.reduceEqDiff, reduceCtorEq, AS]
  refine X_box fun bo w2 hro hlb hB => ?_
  have hro : Row w2 bo [.int .i64 4, .bool false, F, G, .int .u16 (x.v.toNat : Int), .int .i64 n] := hro
  have hb := hb.up hB
  have hw := hw.up hB
  have h1 := h1.up hB
  have h2 := h2.up hB
  have hr := hr.up hB
  have B := B.trans (hB.mono B.size)
  clear hB
  clear hlb
  simp (maxSteps := 1000000) (disch := omega) only [WS, List.getElem_cons_zero, List.getElem_cons_succ, Option.isNone_some, Option.isNone_none, List.getD_cons_zero, List.getD_cons_succ, I.at, atL, atO, atP, evp, evs, retV, ↓reduceIte, Nat.reduceEqDiff, reduceCtorEq, AS, row6_0 hro, row6_1 hro, hr.Xldn (n := 2) rfl, show decide ((4 : Int) = 1) = false from rfl, show decide ((4 : Int) = 2) = false from rfl, show decide ((4 : Int) = 3) = false from rfl]
  refine X_call0 ((culletlaw04_Rings_derivative_b_spec w2 rb rw s1 _ hb hw h1 (by omega)).mono ?_)
  rintro v w3 ⟨hB, m, om, tm, cm, lm⟩
  have om := om.sl
  rw [lo8_map_em8] at cm
  rw [lo8_map_em8] at lm
  have h1 := h1.up hB
  have h2 := h2.up hB
  have B := B.trans (hB.mono B.size)
  clear hB
  simp (maxSteps := 1000000) (disch := omega) only [WS, List.getElem_cons_zero, List.getElem_cons_succ, Option.isNone_some, Option.isNone_none, List.getD_cons_zero, List.getD_cons_succ, I.at, atL, atO, atP, evp, evs, retV, ↓reduceIte, Nat.reduceEqDiff, reduceCtorEq, AS]
  refine X_call0 ((culletref04_Derivative_spec w3 s1 _ h1 (by omega)).mono ?_)
  rintro v2 w4 ⟨m', om', tm', cm', hB⟩
  have om' := om'.sl
  have om := om.up hB
  have B := B.trans (hB.mono B.size)
  clear hB
  have he : m.map em8 = m' := tr_inj (by rw [tr_em8, tm]) tm' (Ps.ext fun k => by
    rw [cm', co_em8, cm]
    show em8 (if k % 2 = 0 then _ else _) = if k % 2 = 0 then _ else _
    split
    · rw [co_em8]
    · rfl)
  have hlm : (m.map em8).length = m.length := List.length_map ..
  have hlm' : m'.length = m.length := by rw [← he, hlm]
  simp (maxSteps := 1000000) (disch := omega) only [WS, List.getElem_cons_zero, List.getElem_cons_succ, Option.isNone_some, Option.isNone_none, List.getD_cons_zero, List.getD_cons_succ, I.at, atL, atO, atP, evp, evs, retV, ↓reduceIte, Nat.reduceEqDiff, reduceCtorEq, AS]
  refine X_call0 ((culletlaw04_same_spec w4 v v2 _ _ om om' (by omega) (by omega)).mono ?_)
  rintro _ w5 ⟨rfl, hk⟩
  have hB := hk.1
  have B := B.trans (hB.mono B.size)
  clear hB
  rw [decide_eq_true he]
  simp (maxSteps := 1000000) (disch := omega) only [WS, List.getElem_cons_zero, List.getElem_cons_succ, Option.isNone_some, Option.isNone_none, List.getD_cons_zero, List.getD_cons_succ, I.at, atL, atO, atP, evp, evs, retV, ↓reduceIte, Nat.reduceEqDiff, reduceCtorEq, AS]
  exact B
theorem culletlaw04_products5_b_spec (w : World) (rb rw F G s1 s2 : Value) (L1 L2 : List (El 8)) (x : El 16) (n : Int) (hb : Ring_b w rb) (hw : Ring_w w rw) (h1 : Sl w s1 (L1.map em8)) (h2 : Sl w s2 (L2.map em8)) (b1 : L1.length ≤ 70368744175616) (b2 : L2.length ≤ 70368744175616) :
    CallV Tryz.prog 18 [.agg #[rb, rw], .agg #[.int .i64 5, .bool false, F, G, .int .u16 (x.v.toNat : Int), .int .i64 n], s1, s2] w fun v w' => v = .bool true ∧ RowKit.Below w.heap.size w w' := by
  have m1 : (L1.map em8).length = L1.length := List.length_map ..
  have m2 : (L2.map em8).length = L2.length := List.length_map ..
  have dt : ∀ e : Int, decide (e = e) = true := fun e => decide_eq_true rfl
  refine run_culletlaw04_products (by simp) ?_
  simp only [c_culletlaw04_products, WS, List.getElem_cons_zero, List.getElem_cons_succ, Option.isNone_some, Option.isNone_none, List.getD_cons_zero, List.getD_cons_succ, I.at, atL, atO, atP, evp, evs, retV, ↓reduceIte, Nat.reduceEqDiff, reduceCtorEq]
  refine X_box fun b w1 hr hlb hB => ?_
  have hr : Row w1 b [rb, rw] := hr
  have B := hB
  have hb := hb.up hB
  have hw := hw.up hB
  have h1 := h1.up hB
  have h2 := h2.up hB
  clear hB hlb
  simp (maxSteps := 1000000) (disch := omega) only [WS, List.getElem_cons_zero, List.getElem_cons_succ, Option.isNone_some, Option.isNone_none, List.getD_cons_zero, List.getD_cons_succ, I.at, atL, atO, atP, evp, evs, retV, ↓reduceIte, Nat.reduceEqDiff, reduceCtorEq, AS]
  refine X_box fun bo w2 hro hlb hB => ?_
  have hro : Row w2 bo [.int .i64 5, .bool false, F, G, .int .u16 (x.v.toNat : Int), .int .i64 n] := hro
  have hb := hb.up hB
  have hw := hw.up hB
  have h1 := h1.up hB
  have h2 := h2.up hB
  have hr := hr.up hB
  have B := B.trans (hB.mono B.size)
  clear hB
  clear hlb
  simp (maxSteps := 1000000) (disch := omega) only [WS, List.getElem_cons_zero, List.getElem_cons_succ, Option.isNone_some, Option.isNone_none, List.getD_cons_zero, List.getD_cons_succ, I.at, atL, atO, atP, evp, evs, retV, ↓reduceIte, Nat.reduceEqDiff, reduceCtorEq, AS, row6_0 hro, row6_1 hro, hr.Xldn (n := 2) rfl, show decide ((5 : Int) = 5) = true from rfl]
  refine X_call0 ((culletlaw04_Rings_mul_b_spec w2 rb rw s1 s2 _ _ hb hw h1 h2 (by omega) (by omega)).mono ?_)
  rw [lo8_map_em8, lo8_map_em8]
  rintro _ w3 ⟨hB, ⟨q1, q2, s, m, rfl, om, tm, cm, lm⟩ | ⟨hn, s, rfl, om⟩⟩
  · have om := om.sl
    have h1 := h1.up hB
    have h2 := h2.up hB
    have hro := hro.up hB
    have B := B.trans (hB.mono B.size)
    clear hB
    simp (maxSteps := 1000000) (disch := omega) only [WS, List.getElem_cons_zero, List.getElem_cons_succ, Option.isNone_some, Option.isNone_none, List.getD_cons_zero, List.getD_cons_succ, I.at, atL, atO, atP, evp, evs, retV, ↓reduceIte, Nat.reduceEqDiff, reduceCtorEq, AS, row6_1 hro]
    refine X_call0 ((culletref04_Mulx_b_spec w3 s1 s2 _ _ h1 h2 (by omega) (by omega)).mono ?_)
    rintro _ w4 ⟨hB, ⟨-, -, s', m', rfl, om', tm', cm'⟩ | ⟨hn, -⟩⟩
    · have om' := om'.sl
      have om := om.up hB
      have B := B.trans (hB.mono B.size)
      clear hB
      have he : m = m' := tr_inj tm tm' (cm.trans cm'.symm)
      subst he
      have hlm : (m.map em8).length = m.length := List.length_map ..
      simp (maxSteps := 1000000) (disch := omega) only [WS, List.getElem_cons_zero, List.getElem_cons_succ, Option.isNone_some, Option.isNone_none, List.getD_cons_zero, List.getD_cons_succ, I.at, atL, atO, atP, evp, evs, retV, ↓reduceIte, Nat.reduceEqDiff, reduceCtorEq, AS, show decide ((0 : Int) = 0) = true from rfl]
      refine X_call0 ((culletlaw04_same_spec w4 s s' _ _ om om' (by omega) (by omega)).mono ?_)
      rintro _ w5 ⟨rfl, hk⟩
      have hB := hk.1
      have B := B.trans (hB.mono B.size)
      clear hB
      rw [decide_eq_true rfl]
      simp (maxSteps := 1000000) (disch := omega) only [WS, List.getElem_cons_zero, List.getElem_cons_succ, Option.isNone_some, Option.isNone_none, List.getD_cons_zero, List.getD_cons_succ, I.at, atL, atO, atP, evp, evs, retV, ↓reduceIte, Nat.reduceEqDiff, reduceCtorEq, AS]
      exact B
    · exact absurd ⟨by omega, by omega⟩ hn
  · have om := om.sl
    have h1 := h1.up hB
    have h2 := h2.up hB
    have hro := hro.up hB
    have B := B.trans (hB.mono B.size)
    clear hB
    simp (maxSteps := 1000000) (disch := omega) only [WS, List.getElem_cons_zero, List.getElem_cons_succ, Option.isNone_some, Option.isNone_none, List.getD_cons_zero, List.getD_cons_succ, I.at, atL, atO, atP, evp, evs, retV, ↓reduceIte, Nat.reduceEqDiff, reduceCtorEq, AS, row6_1 hro]
    refine X_call0 ((culletref04_Mulx_b_spec w3 s1 s2 _ _ h1 h2 (by omega) (by omega)).mono ?_)
    rintro _ w4 ⟨hB, ⟨q1, q2, -⟩ | ⟨-, rfl⟩⟩
    · exact absurd ⟨by omega, by omega⟩ hn
    · have om := om.up hB
      have B := B.trans (hB.mono B.size)
      clear hB
      simp (maxSteps := 1000000) (disch := omega) only [WS, List.getElem_cons_zero, List.getElem_cons_succ, Option.isNone_some, Option.isNone_none, List.getD_cons_zero, List.getD_cons_succ, I.at, atL, atO, atP, evp, evs, retV, ↓reduceIte, Nat.reduceEqDiff, reduceCtorEq, AS, show decide ((5 : Int) = 5) = true from rfl]
      refine X_call0 ((culletlaw04_same_spec w4 s _ _ _ om (Sl.nil (α := El 16) w4) (by simp) (by simp)).mono ?_)
      rintro _ w5 ⟨rfl, hk⟩
      have hB := hk.1
      have B := B.trans (hB.mono B.size)
      clear hB
      rw [decide_eq_true rfl]
      simp (maxSteps := 1000000) (disch := omega) only [WS, List.getElem_cons_zero, List.getElem_cons_succ, Option.isNone_some, Option.isNone_none, List.getD_cons_zero, List.getD_cons_succ, I.at, atL, atO, atP, evp, evs, retV, ↓reduceIte, Nat.reduceEqDiff, reduceCtorEq, AS]
      exact B
theorem culletlaw04_products7_b_spec (w : World) (rb rw F G s1 s2 : Value) (L1 L2 : List (El 8)) (x : El 16) (n : Int) (hb : Ring_b w rb) (hw : Ring_w w rw) (h1 : Sl w s1 (L1.map em8)) (h2 : Sl w s2 (L2.map em8)) (b1 : L1.length ≤ 70368744175616) (b2 : L2.length ≤ 70368744175616) :
    CallV Tryz.prog 18 [.agg #[rb, rw], .agg #[.int .i64 7, .bool false, F, G, .int .u16 (x.v.toNat : Int), .int .i64 n], s1, s2] w fun v w' => v = .bool true ∧ RowKit.Below w.heap.size w w' := by
  have m1 : (L1.map em8).length = L1.length := List.length_map ..
  have m2 : (L2.map em8).length = L2.length := List.length_map ..
  have dt : ∀ e : Int, decide (e = e) = true := fun e => decide_eq_true rfl
  refine run_culletlaw04_products (by simp) ?_
  simp only [c_culletlaw04_products, WS, List.getElem_cons_zero, List.getElem_cons_succ, Option.isNone_some, Option.isNone_none, List.getD_cons_zero, List.getD_cons_succ, I.at, atL, atO, atP, evp, evs, retV, ↓reduceIte, Nat.reduceEqDiff, reduceCtorEq]
  refine X_box fun b w1 hr hlb hB => ?_
  have hr : Row w1 b [rb, rw] := hr
  have B := hB
  have hb := hb.up hB
  have hw := hw.up hB
  have h1 := h1.up hB
  have h2 := h2.up hB
  clear hB hlb
  simp (maxSteps := 1000000) (disch := omega) only [WS, List.getElem_cons_zero, List.getElem_cons_succ, Option.isNone_some, Option.isNone_none, List.getD_cons_zero, List.getD_cons_succ, I.at, atL, atO, atP, evp, evs, retV, ↓reduceIte, Nat.reduceEqDiff, reduceCtorEq, AS]
  refine X_box fun bo w2 hro hlb hB => ?_
  have hro : Row w2 bo [.int .i64 7, .bool false, F, G, .int .u16 (x.v.toNat : Int), .int .i64 n] := hro
  have hb := hb.up hB
  have hw := hw.up hB
  have h1 := h1.up hB
  have h2 := h2.up hB
  have hr := hr.up hB
  have B := B.trans (hB.mono B.size)
  clear hB
  clear hlb
  simp (maxSteps := 1000000) (disch := omega) only [WS, List.getElem_cons_zero, List.getElem_cons_succ, Option.isNone_some, Option.isNone_none, List.getD_cons_zero, List.getD_cons_succ, I.at, atL, atO, atP, evp, evs, retV, ↓reduceIte, Nat.reduceEqDiff, reduceCtorEq, AS, row6_0 hro, row6_1 hro, hr.Xldn (n := 2) rfl, show decide ((7 : Int) = 5) = false from rfl, show decide ((7 : Int) = 7) = true from rfl]
  refine X_call0 ((culletlaw04_Rings_gcd_b_spec w2 rb rw s1 s2 _ _ hb hw h1 h2 (by omega) (by omega)).mono ?_)
  rw [lo8_map_em8, lo8_map_em8]
  rintro _ w3 ⟨hB, ⟨q1, q2, s, m, rfl, om, tm, d1, d2, e, hm, lm⟩ | ⟨hn, s, rfl, om⟩⟩
  · have om := om.sl
    have h1 := h1.up hB
    have h2 := h2.up hB
    have hro := hro.up hB
    have B := B.trans (hB.mono B.size)
    clear hB
    simp (maxSteps := 1000000) (disch := omega) only [WS, List.getElem_cons_zero, List.getElem_cons_succ, Option.isNone_some, Option.isNone_none, List.getD_cons_zero, List.getD_cons_succ, I.at, atL, atO, atP, evp, evs, retV, ↓reduceIte, Nat.reduceEqDiff, reduceCtorEq, AS, row6_1 hro]
    refine X_call0 ((culletref04_Gcd_b_spec w3 s1 s2 _ _ h1 h2 (by omega) (by omega)).mono ?_)
    rintro _ w4 ⟨hB, ⟨-, -, s', m', rfl, om', tm', d1', d2', e', hm', lm'⟩ | ⟨hn, -⟩⟩
    · have om' := om'.sl
      have om := om.up hB
      have B := B.trans (hB.mono B.size)
      clear hB
      have he : m = m' := gcd_uniq tm tm' d1 d2 d1' d2' e e' hm hm'
      subst he
      have hlm : (m.map em8).length = m.length := List.length_map ..
      simp (maxSteps := 1000000) (disch := omega) only [WS, List.getElem_cons_zero, List.getElem_cons_succ, Option.isNone_some, Option.isNone_none, List.getD_cons_zero, List.getD_cons_succ, I.at, atL, atO, atP, evp, evs, retV, ↓reduceIte, Nat.reduceEqDiff, reduceCtorEq, AS, show decide ((0 : Int) = 0) = true from rfl]
      refine X_call0 ((culletlaw04_same_spec w4 s s' _ _ om om' (by omega) (by omega)).mono ?_)
      rintro _ w5 ⟨rfl, hk⟩
      have hB := hk.1
      have B := B.trans (hB.mono B.size)
      clear hB
      rw [decide_eq_true rfl]
      simp (maxSteps := 1000000) (disch := omega) only [WS, List.getElem_cons_zero, List.getElem_cons_succ, Option.isNone_some, Option.isNone_none, List.getD_cons_zero, List.getD_cons_succ, I.at, atL, atO, atP, evp, evs, retV, ↓reduceIte, Nat.reduceEqDiff, reduceCtorEq, AS]
      exact B
    · exact absurd ⟨by omega, by omega⟩ hn
  · have om := om.sl
    have h1 := h1.up hB
    have h2 := h2.up hB
    have hro := hro.up hB
    have B := B.trans (hB.mono B.size)
    clear hB
    simp (maxSteps := 1000000) (disch := omega) only [WS, List.getElem_cons_zero, List.getElem_cons_succ, Option.isNone_some, Option.isNone_none, List.getD_cons_zero, List.getD_cons_succ, I.at, atL, atO, atP, evp, evs, retV, ↓reduceIte, Nat.reduceEqDiff, reduceCtorEq, AS, row6_1 hro]
    refine X_call0 ((culletref04_Gcd_b_spec w3 s1 s2 _ _ h1 h2 (by omega) (by omega)).mono ?_)
    rintro _ w4 ⟨hB, ⟨q1, q2, -⟩ | ⟨-, rfl⟩⟩
    · exact absurd ⟨by omega, by omega⟩ hn
    · have om := om.up hB
      have B := B.trans (hB.mono B.size)
      clear hB
      simp (maxSteps := 1000000) (disch := omega) only [WS, List.getElem_cons_zero, List.getElem_cons_succ, Option.isNone_some, Option.isNone_none, List.getD_cons_zero, List.getD_cons_succ, I.at, atL, atO, atP, evp, evs, retV, ↓reduceIte, Nat.reduceEqDiff, reduceCtorEq, AS, show decide ((5 : Int) = 5) = true from rfl]
      refine X_call0 ((culletlaw04_same_spec w4 s _ _ _ om (Sl.nil (α := El 16) w4) (by simp) (by simp)).mono ?_)
      rintro _ w5 ⟨rfl, hk⟩
      have hB := hk.1
      have B := B.trans (hB.mono B.size)
      clear hB
      rw [decide_eq_true rfl]
      simp (maxSteps := 1000000) (disch := omega) only [WS, List.getElem_cons_zero, List.getElem_cons_succ, Option.isNone_some, Option.isNone_none, List.getD_cons_zero, List.getD_cons_succ, I.at, atL, atO, atP, evp, evs, retV, ↓reduceIte, Nat.reduceEqDiff, reduceCtorEq, AS]
      exact B
theorem culletlaw04_products6_b_spec (w : World) (rb rw F G s1 s2 : Value) (L1 L2 : List (El 8)) (x : El 16) (n : Int) (hb : Ring_b w rb) (hw : Ring_w w rw) (h1 : Sl w s1 (L1.map em8)) (h2 : Sl w s2 (L2.map em8)) (b1 : L1.length ≤ 70368744175616) (b2 : L2.length ≤ 70368744175616) :
    CallV Tryz.prog 18 [.agg #[rb, rw], .agg #[.int .i64 6, .bool false, F, G, .int .u16 (x.v.toNat : Int), .int .i64 n], s1, s2] w fun v w' => v = .bool true ∧ RowKit.Below w.heap.size w w' := by
  have m1 : (L1.map em8).length = L1.length := List.length_map ..
  have m2 : (L2.map em8).length = L2.length := List.length_map ..
  have l1' := tln_le L1
  have l2' := tln_le L2
  refine run_culletlaw04_products (by simp) ?_
  simp only [c_culletlaw04_products, WS, List.getElem_cons_zero, List.getElem_cons_succ, Option.isNone_some, Option.isNone_none, List.getD_cons_zero, List.getD_cons_succ, I.at, atL, atO, atP, evp, evs, retV, ↓reduceIte, Nat.reduceEqDiff, reduceCtorEq]
  refine X_box fun b w1 hr hlb hB => ?_
  have hr : Row w1 b [rb, rw] := hr
  have B := hB
  have hb := hb.up hB
  have hw := hw.up hB
  have h1 := h1.up hB
  have h2 := h2.up hB
  clear hB hlb
  simp (maxSteps := 1000000) (disch := omega) only [WS, List.getElem_cons_zero, List.getElem_cons_succ, Option.isNone_some, Option.isNone_none, List.getD_cons_zero, List.getD_cons_succ, I.at, atL, atO, atP, evp, evs, retV, ↓reduceIte, Nat.reduceEqDiff, reduceCtorEq, AS]
  refine X_box fun bo w2 hro hlb hB => ?_
  have hro : Row w2 bo [.int .i64 6, .bool false, F, G, .int .u16 (x.v.toNat : Int), .int .i64 n] := hro
  have hb := hb.up hB
  have hw := hw.up hB
  have h1 := h1.up hB
  have h2 := h2.up hB
  have hr := hr.up hB
  have B := B.trans (hB.mono B.size)
  clear hB
  clear hlb
  simp (maxSteps := 1000000) (disch := omega) only [WS, List.getElem_cons_zero, List.getElem_cons_succ, Option.isNone_some, Option.isNone_none, List.getD_cons_zero, List.getD_cons_succ, I.at, atL, atO, atP, evp, evs, retV, ↓reduceIte, Nat.reduceEqDiff, reduceCtorEq, AS, row6_0 hro, row6_1 hro, hr.Xldn (n := 2) rfl, show decide ((6 : Int) = 5) = false from rfl, show decide ((6 : Int) = 7) = false from rfl]
  refine X_call0 ((culletlaw04_Rings_divMod_b_spec w2 rb rw s1 s2 _ _ hb hw h1 h2 (by omega) (by omega)).mono ?_)
  rw [lo8_map_em8, lo8_map_em8]
  rintro _ w3 ⟨hB, ⟨q1, q2, hz, sq, sm, q, m, rfl, oq, om, tq, tm, cm, lm, lq⟩ | ⟨q1, q2, hz, sq, sm, rfl, oq, om⟩ | ⟨hn, sq, sm, rfl, oq, om⟩⟩
  · have om := om.sl
    have oq := oq.sl
    have h1 := h1.up hB
    have h2 := h2.up hB
    have hro := hro.up hB
    have B := B.trans (hB.mono B.size)
    clear hB
    simp (maxSteps := 1000000) (disch := omega) only [WS, List.getElem_cons_zero, List.getElem_cons_succ, Option.isNone_some, Option.isNone_none, List.getD_cons_zero, List.getD_cons_succ, I.at, atL, atO, atP, evp, evs, retV, ↓reduceIte, Nat.reduceEqDiff, reduceCtorEq, AS, row6_1 hro]
    refine X_call0 ((culletref04_DivMod_b_spec w3 s1 s2 _ _ h1 h2 (by omega) (by omega)).mono ?_)
    rintro _ w4 ⟨hB, ⟨-, -, -, sq', sm', q', m', rfl, oq', om', tq', tm', cm', lm', lq'⟩ | ⟨-, -, hz', -⟩ | ⟨hn, -⟩⟩
    · have om' := om'.sl
      have oq' := oq'.sl
      have om := om.up hB
      have oq := oq.up hB
      have B := B.trans (hB.mono B.size)
      clear hB
      obtain ⟨rfl, rfl⟩ := div_uniq tq tm tq' tm' cm cm' lm lm'
      have hlm : (m.map em8).length = m.length := List.length_map ..
      have hlq : (q.map em8).length = q.length := List.length_map ..
      simp (maxSteps := 1000000) (disch := omega) only [WS, List.getElem_cons_zero, List.getElem_cons_succ, Option.isNone_some, Option.isNone_none, List.getD_cons_zero, List.getD_cons_succ, I.at, atL, atO, atP, evp, evs, retV, ↓reduceIte, Nat.reduceEqDiff, reduceCtorEq, AS, show decide ((0 : Int) = 0) = true from rfl]
      refine X_call0 ((culletlaw04_same_spec w4 sq sq' _ _ oq oq' (by omega) (by omega)).mono ?_)
      rintro _ w5 ⟨rfl, hk⟩
      have hB := hk.1
      have om := om.up hB
      have om' := om'.up hB
      have B := B.trans (hB.mono B.size)
      clear hB
      rw [decide_eq_true rfl]
      simp (maxSteps := 1000000) (disch := omega) only [WS, List.getElem_cons_zero, List.getElem_cons_succ, Option.isNone_some, Option.isNone_none, List.getD_cons_zero, List.getD_cons_succ, I.at, atL, atO, atP, evp, evs, retV, ↓reduceIte, Nat.reduceEqDiff, reduceCtorEq, AS]
      refine X_call0 ((culletlaw04_same_spec w5 sm sm' _ _ om om' (by omega) (by omega)).mono ?_)
      rintro _ w6 ⟨rfl, hk⟩
      have hB := hk.1
      have B := B.trans (hB.mono B.size)
      clear hB
      rw [decide_eq_true rfl]
      simp (maxSteps := 1000000) (disch := omega) only [WS, List.getElem_cons_zero, List.getElem_cons_succ, Option.isNone_some, Option.isNone_none, List.getD_cons_zero, List.getD_cons_succ, I.at, atL, atO, atP, evp, evs, retV, ↓reduceIte, Nat.reduceEqDiff, reduceCtorEq, AS]
      exact B
    · exact absurd hz' hz
    · exact absurd ⟨by omega, by omega⟩ hn
  · have om := om.sl
    have oq := oq.sl
    have h1 := h1.up hB
    have h2 := h2.up hB
    have hro := hro.up hB
    have B := B.trans (hB.mono B.size)
    clear hB
    simp (maxSteps := 1000000) (disch := omega) only [WS, List.getElem_cons_zero, List.getElem_cons_succ, Option.isNone_some, Option.isNone_none, List.getD_cons_zero, List.getD_cons_succ, I.at, atL, atO, atP, evp, evs, retV, ↓reduceIte, Nat.reduceEqDiff, reduceCtorEq, AS, row6_1 hro]
    refine X_call0 ((culletref04_DivMod_b_spec w3 s1 s2 _ _ h1 h2 (by omega) (by omega)).mono ?_)
    rintro _ w4 ⟨hB, ⟨-, -, hz', -⟩ | ⟨-, -, -, rfl⟩ | ⟨hn, -⟩⟩
    · exact absurd hz hz'
    · have om := om.up hB
      have oq := oq.up hB
      have B := B.trans (hB.mono B.size)
      clear hB
      simp (maxSteps := 1000000) (disch := omega) only [WS, List.getElem_cons_zero, List.getElem_cons_succ, Option.isNone_some, Option.isNone_none, List.getD_cons_zero, List.getD_cons_succ, I.at, atL, atO, atP, evp, evs, retV, ↓reduceIte, Nat.reduceEqDiff, reduceCtorEq, AS, show decide ((40 : Int) = 40) = true from rfl]
      refine X_call0 ((culletlaw04_same_spec w4 sq _ _ _ oq (Sl.nil (α := El 16) w4) (by simp) (by simp)).mono ?_)
      rintro _ w5 ⟨rfl, hk⟩
      have hB := hk.1
      have om := om.up hB
      have B := B.trans (hB.mono B.size)
      clear hB
      rw [decide_eq_true rfl]
      simp (maxSteps := 1000000) (disch := omega) only [WS, List.getElem_cons_zero, List.getElem_cons_succ, Option.isNone_some, Option.isNone_none, List.getD_cons_zero, List.getD_cons_succ, I.at, atL, atO, atP, evp, evs, retV, ↓reduceIte, Nat.reduceEqDiff, reduceCtorEq, AS]
      refine X_call0 ((culletlaw04_same_spec w5 sm _ _ _ om (Sl.nil (α := El 16) w5) (by simp) (by simp)).mono ?_)
      rintro _ w6 ⟨rfl, hk⟩
      have hB := hk.1
      have B := B.trans (hB.mono B.size)
      clear hB
      rw [decide_eq_true rfl]
      simp (maxSteps := 1000000) (disch := omega) only [WS, List.getElem_cons_zero, List.getElem_cons_succ, Option.isNone_some, Option.isNone_none, List.getD_cons_zero, List.getD_cons_succ, I.at, atL, atO, atP, evp, evs, retV, ↓reduceIte, Nat.reduceEqDiff, reduceCtorEq, AS]
      exact B
    · exact absurd ⟨by omega, by omega⟩ hn
  · have om := om.sl
    have oq := oq.sl
    have h1 := h1.up hB
    have h2 := h2.up hB
    have hro := hro.up hB
    have B := B.trans (hB.mono B.size)
    clear hB
    simp (maxSteps := 1000000) (disch := omega) only [WS, List.getElem_cons_zero, List.getElem_cons_succ, Option.isNone_some, Option.isNone_none, List.getD_cons_zero, List.getD_cons_succ, I.at, atL, atO, atP, evp, evs, retV, ↓reduceIte, Nat.reduceEqDiff, reduceCtorEq, AS, row6_1 hro]
    refine X_call0 ((culletref04_DivMod_b_spec w3 s1 s2 _ _ h1 h2 (by omega) (by omega)).mono ?_)
    rintro _ w4 ⟨hB, ⟨q1, q2, -⟩ | ⟨q1, q2, -⟩ | ⟨-, rfl⟩⟩
    · exact absurd ⟨by omega, by omega⟩ hn
    · exact absurd ⟨by omega, by omega⟩ hn
    · have om := om.up hB
      have oq := oq.up hB
      have B := B.trans (hB.mono B.size)
      clear hB
      simp (maxSteps := 1000000) (disch := omega) only [WS, List.getElem_cons_zero, List.getElem_cons_succ, Option.isNone_some, Option.isNone_none, List.getD_cons_zero, List.getD_cons_succ, I.at, atL, atO, atP, evp, evs, retV, ↓reduceIte, Nat.reduceEqDiff, reduceCtorEq, AS, show decide ((5 : Int) = 5) = true from rfl]
      refine X_call0 ((culletlaw04_same_spec w4 sq _ _ _ oq (Sl.nil (α := El 16) w4) (by simp) (by simp)).mono ?_)
      rintro _ w5 ⟨rfl, hk⟩
      have hB := hk.1
      have om := om.up hB
      have B := B.trans (hB.mono B.size)
      clear hB
      rw [decide_eq_true rfl]
      simp (maxSteps := 1000000) (disch := omega) only [WS, List.getElem_cons_zero, List.getElem_cons_succ, Option.isNone_some, Option.isNone_none, List.getD_cons_zero, List.getD_cons_succ, I.at, atL, atO, atP, evp, evs, retV, ↓reduceIte, Nat.reduceEqDiff, reduceCtorEq, AS]
      refine X_call0 ((culletlaw04_same_spec w5 sm _ _ _ om (Sl.nil (α := El 16) w5) (by simp) (by simp)).mono ?_)
      rintro _ w6 ⟨rfl, hk⟩
      have hB := hk.1
      have B := B.trans (hB.mono B.size)
      clear hB
      rw [decide_eq_true rfl]
      simp (maxSteps := 1000000) (disch := omega) only [WS, List.getElem_cons_zero, List.getElem_cons_succ, Option.isNone_some, Option.isNone_none, List.getD_cons_zero, List.getD_cons_succ, I.at, atL, atO, atP, evp, evs, retV, ↓reduceIte, Nat.reduceEqDiff, reduceCtorEq, AS]
      exact B
end Go.Proofs.YtcdagkcchfibjaaGreat.Fw
