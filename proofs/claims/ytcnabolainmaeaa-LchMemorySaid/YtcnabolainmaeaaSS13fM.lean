import Derived.Test.YtcnabolainmaeaaProg
import Derived.Test.YtcnabolainmaeaaFwTM
import Derived.Test.YtcnabolainmaeaaSS13eM
set_option linter.all false
set_option linter.unusedVariables false
set_option linter.unusedSimpArgs false
set_option maxRecDepth 100000
set_option maxHeartbeats 1000000
namespace Go.Proofs.Ytcnabolainmaeaa.Fw
open Go Go.Fw Go.Proofs
attribute [local irreducible] stepI
def c_culletlaw13_awake : C := .seq (.ops [⟨0, (some 0), none, .mov (.c (.bool false)), []⟩]) (.seq (.ops [⟨0, (some 6), none, .call (.c (.func (.func 14) #[] #[])) [.c (.int .i64 3)], []⟩, ⟨1, (some 5), none, .mov (.t 6), []⟩, ⟨2, (some 7), none, .ext (.t 5) 0, []⟩, ⟨3, (some 8), none, .ext (.t 5) 1, []⟩, ⟨4, (some 1), none, .mov (.t 7), []⟩, ⟨5, (some 2), none, .mov (.t 8), []⟩]) (.seq (.seq (.ops [⟨0, (some 9), none, .mov (.t 2), []⟩, ⟨1, (some 10), none, .bin .neq (.t 9) (.c (.int .i64 0)), []⟩, ⟨2, (some 11), none, .mov (.t 10), []⟩, ⟨3, (some 12), (some (11, false)), .mov (.t 1), []⟩, ⟨4, (some 13), (some (11, false)), .bsl 22 4 [.int .u16 0] [(0, (1, .c (.int .u16 1))), (1, (1, .c (.int .u16 1))), (2, (1, .c (.int .u16 1))), (3, (1, .c (.int .u16 1)))], []⟩, ⟨5, (some 14), (some (11, false)), .call (.c (.func (.func 22) #[] #[])) [.t 12, .t 13], []⟩, ⟨6, (some 15), (some (11, false)), .un .not (.t 14), []⟩, ⟨7, (some 16), none, .pick (.t 11) (.c (.bool true)) (.t 15), []⟩]) (.ite (.t 16) (.seq (.ops [⟨0, (some 0), none, .mov (.c (.bool false)), []⟩]) .ret) .skip)) (.seq (.ops [⟨0, (some 18), none, .bsl 22 4 [.int .u16 0] [(0, (1, .c (.int .u16 9))), (1, (1, .c (.int .u16 1))), (2, (1, .c (.int .u16 2))), (3, (1, .c (.int .u16 4)))], []⟩, ⟨1, (some 19), none, .call (.c (.func (.func 18) #[] #[])) [.t 18], []⟩, ⟨2, (some 17), none, .mov (.t 19), []⟩, ⟨3, (some 20), none, .ext (.t 17) 0, []⟩, ⟨4, (some 21), none, .ext (.t 17) 1, []⟩, ⟨5, (some 3), none, .mov (.t 20), []⟩, ⟨6, (some 2), none, .mov (.t 21), []⟩]) (.seq (.seq (.ops [⟨0, (some 22), none, .mov (.t 2), []⟩, ⟨1, (some 23), none, .bin .neq (.t 22) (.c (.int .i64 0)), []⟩, ⟨2, (some 24), none, .mov (.t 23), []⟩, ⟨3, (some 25), (some (24, false)), .mov (.t 3), []⟩, ⟨4, (some 26), (some (24, false)), .bsl 22 4 [.int .u16 0] [(0, (1, .c (.int .u16 3))), (1, (1, .c (.int .u16 4))), (2, (1, .c (.int .u16 4))), (3, (1, .c (.int .u16 0)))], []⟩, ⟨5, (some 27), (some (24, false)), .call (.c (.func (.func 22) #[] #[])) [.t 25, .t 26], []⟩, ⟨6, (some 28), (some (24, false)), .un .not (.t 27), []⟩, ⟨7, (some 29), none, .pick (.t 24) (.c (.bool true)) (.t 28), []⟩]) (.ite (.t 29) (.seq (.ops [⟨0, (some 0), none, .mov (.c (.bool false)), []⟩]) .ret) .skip)) (.seq (.ops [⟨0, (some 31), none, .call (.c (.func (.func 16) #[] #[])) [.c (.int .i64 2), .c (.int .i64 7)], []⟩, ⟨1, (some 30), none, .mov (.t 31), []⟩, ⟨2, (some 32), none, .ext (.t 30) 0, []⟩, ⟨3, (some 33), none, .ext (.t 30) 1, []⟩, ⟨4, (some 4), none, .mov (.t 32), []⟩, ⟨5, (some 2), none, .mov (.t 33), []⟩]) (.seq (.ops [⟨0, (some 34), none, .mov (.t 4), []⟩, ⟨1, (some 35), none, .bin .eql (.t 34) (.c (.int .u16 1)), []⟩, ⟨2, (some 36), none, .mov (.t 35), []⟩, ⟨3, (some 37), (some (36, true)), .mov (.t 2), []⟩, ⟨4, (some 38), (some (36, true)), .bin .eql (.t 37) (.c (.int .i64 0)), []⟩, ⟨5, (some 39), none, .pick (.t 36) (.t 38) (.c (.bool false)), []⟩, ⟨6, (some 0), none, .mov (.t 39), []⟩]) .ret))))))
attribute [irreducible] c_culletlaw13_awake
theorem run_culletlaw13_awake {args : List Value} {w : World} {K : Value → World → Prop} (hn : args.length ≤ 40) (h : WP Try.prog c_culletlaw13_awake (endQ [.t 0] K) (initT args) w) : CallV Try.prog 12 args w K :=
  call_of follows Try.func12 (by kernel_rfl) (by kernel_rfl) hn h
def c_culletlaw13_twin : C := .seq (.ops [⟨0, (some 2), none, .mov (.c (.slice none 0 0)), []⟩]) (.seq (.ops [⟨0, (some 4), none, .mov (.t 0), []⟩, ⟨1, (some 5), none, .len (.t 4), []⟩, ⟨2, (some 6), none, .mks 22 2 [.int .u16 0] (.t 5) (.t 5), []⟩, ⟨3, (some 3), none, .mov (.t 6), []⟩]) (.seq (.ops [⟨0, (some 7), none, .mov (.t 3), []⟩, ⟨1, (some 8), none, .mov (.t 0), []⟩, ⟨2, (some 9), none, .cpy 1 (.t 7) (.t 8), []⟩]) (.seq (.ops [⟨0, (some 10), none, .mov (.t 3), []⟩, ⟨1, (some 2), none, .mov (.t 10), []⟩]) .ret)))
attribute [irreducible] c_culletlaw13_twin
theorem run_culletlaw13_twin {args : List Value} {w : World} {K : Value → World → Prop} (hn : args.length ≤ 11) (h : WP Try.prog c_culletlaw13_twin (endQ [.t 2] K) (initT args) w) : CallV Try.prog 19 args w K :=
  call_of follows Try.func19 (by kernel_rfl) (by kernel_rfl) hn h
def c_culletlaw13_same : C := .seq (.ops [⟨0, (some 4), none, .mov (.c (.bool false)), []⟩]) (.seq (.seq (.ops [⟨0, (some 6), none, .mov (.t 0), []⟩, ⟨1, (some 7), none, .len (.t 6), []⟩, ⟨2, (some 8), none, .mov (.t 1), []⟩, ⟨3, (some 9), none, .len (.t 8), []⟩, ⟨4, (some 10), none, .bin .neq (.t 7) (.t 9), []⟩]) (.ite (.t 10) (.seq (.ops [⟨0, (some 4), none, .mov (.c (.bool false)), []⟩]) .ret) .skip)) (.seq (.seq (.ops [⟨0, (some 5), none, .mov (.c (.int .i64 0)), []⟩]) (.block 0 (.loop (.seq (.seq (.ops [⟨0, (some 11), none, .mov (.t 5), []⟩, ⟨1, (some 12), none, .mov (.t 0), []⟩, ⟨2, (some 13), none, .len (.t 12), []⟩, ⟨3, (some 14), none, .bin .lss (.t 11) (.t 13), []⟩]) (.ite (.t 14) .skip (.exit 0))) (.seq (.block 1 (.seq (.dops [⟨0, (some 17), none, .mov (.t 0), []⟩, ⟨1, (some 18), none, .mov (.t 5), []⟩, ⟨2, (some 19), none, .ixs 1 (.t 17) (.t 18), []⟩, ⟨3, (some 20), none, .ld (.t 19), []⟩, ⟨4, (some 21), none, .mov (.t 1), []⟩, ⟨5, (some 22), none, .mov (.t 5), []⟩, ⟨6, (some 23), none, .ixs 1 (.t 21) (.t 22), []⟩, ⟨7, (some 24), none, .ld (.t 23), []⟩, ⟨8, (some 25), none, .bin .neq (.t 20) (.t 24), []⟩]) (.ite (.t 25) (.seq (.ops [⟨0, (some 4), none, .mov (.c (.bool false)), []⟩]) .ret) .skip))) (.ops [⟨0, (some 15), none, .mov (.t 5), []⟩, ⟨1, (some 16), none, .bin .add (.t 15) (.c (.int .i64 1)), []⟩, ⟨2, (some 5), none, .mov (.t 16), []⟩])))))) (.seq (.ops [⟨0, (some 4), none, .mov (.c (.bool true)), []⟩]) .ret)))
attribute [irreducible] c_culletlaw13_same
theorem run_culletlaw13_same {args : List Value} {w : World} {K : Value → World → Prop} (hn : args.length ≤ 26) (h : WP Try.prog c_culletlaw13_same (endQ [.t 4] K) (initT args) w) : CallV Try.prog 22 args w K :=
  call_of follows Try.func22 (by kernel_rfl) (by kernel_rfl) hn h
end Go.Proofs.Ytcnabolainmaeaa.Fw
namespace Go.Proofs.Ytcnabolainmaeaa.Fw
open Go Go.Fw
theorem culletlaw13_same_spec (w : World) (s1 s2 : Value) (l1 l2 : List (El 16)) (h1 : Sl w s1 l1) (h2 : Sl w s2 l2) (hb : l1.length ≤ 140737488355328) (hb2 : l2.length ≤ 140737488355328) :
    CallV Try.prog 22 [s1, s2] w fun v w' => v = .bool (decide (l1 = l2)) ∧ Like w w' := by
  refine run_culletlaw13_same (by simp) ?_
  simp only [c_culletlaw13_same, WS, List.getElem_cons_zero, List.getElem_cons_succ, Option.isNone_some, Option.isNone_none, List.getD_cons_zero, List.getD_cons_succ, I.at, atL, atO, atP, evp, evs, retV, ↓reduceIte, Nat.reduceEqDiff, reduceCtorEq, h1.Xlen, h2.Xlen]
  by_cases hl : l1.length = l2.length
  · simp only [WS, List.getElem_cons_zero, List.getElem_cons_succ, Option.isNone_some, Option.isNone_none, List.getD_cons_zero, List.getD_cons_succ, I.at, atL, atO, atP, evp, evs, retV, ↓reduceIte, Nat.reduceEqDiff, reduceCtorEq, show decide ((l1.length : Int) = (l2.length : Int)) = true from decide_eq_true (by omega)]
    refine loop_of (fun t w' => Like w w' ∧ t 0 = s1 ∧ t 1 = s2 ∧ ∃ i : Nat, t 5 = .int .i64 (i : Int) ∧ i ≤ l1.length ∧ l1.take i = l2.take i) (fun t _ => l1.length - (toI (t 5)).toNat) ⟨Like.refl w, rfl, rfl, 0, rfl, by omega, by simp⟩ ?_
    rintro t w' ⟨hk, t0, t1, i, t5, hi, he⟩
    have g1 := hk.sl h1
    have g2 := hk.sl h2
    by_cases hlt : i < l1.length
    · have hlt2 : i < l2.length := by omega
      simp only [WS, List.getElem_cons_zero, List.getElem_cons_succ, Option.isNone_some, Option.isNone_none, List.getD_cons_zero, List.getD_cons_succ, I.at, atL, atO, atP, evp, evs, retV, ↓reduceIte, Nat.reduceEqDiff, reduceCtorEq, t0, t1, t5, g1.Xlen, show decide ((i : Int) < (l1.length : Int)) = true from decide_eq_true (by omega)]
      refine WP_dops ?_
      simp only [ES, List.mem_cons, List.not_mem_nil, implies_true, forall_const, WS, List.getElem_cons_zero, List.getElem_cons_succ, Option.isNone_some, Option.isNone_none, List.getD_cons_zero, List.getD_cons_succ, I.at, atL, atO, atP, evp, evs, retV, ↓reduceIte, Nat.reduceEqDiff, reduceCtorEq, t0, t1, t5, g1.drew.Eix hlt, g1.drew.Eld hlt, g2.drew.Eix hlt2, g2.drew.Eld hlt2, cell_e16, el_eq]
      by_cases hx : l1[i] = l2[i]
      · simp only [WS, List.getElem_cons_zero, List.getElem_cons_succ, Option.isNone_some, Option.isNone_none, List.getD_cons_zero, List.getD_cons_succ, I.at, atL, atO, atP, evp, evs, retV, ↓reduceIte, Nat.reduceEqDiff, reduceCtorEq, t0, t1, t5, decide_eq_true hx, wrap_id (show -9223372036854775808 ≤ (i : Int) + 1 by omega) (show (i : Int) + 1 < 9223372036854775808 by omega), toI_int]
        refine ⟨⟨hk.trans (Like.drew _), i + 1, rfl, by omega, ?_⟩, by omega⟩
        rw [List.take_add_one, List.take_add_one, he, List.getElem?_eq_getElem hlt, List.getElem?_eq_getElem hlt2, hx]
      · have : ¬ l1 = l2 := fun e => hx (by subst e; rfl)
        simp only [WS, List.getElem_cons_zero, List.getElem_cons_succ, Option.isNone_some, Option.isNone_none, List.getD_cons_zero, List.getD_cons_succ, I.at, atL, atO, atP, evp, evs, retV, ↓reduceIte, Nat.reduceEqDiff, reduceCtorEq, t0, t1, t5, decide_eq_false hx, decide_eq_false this]
        exact hk.trans (Like.drew _)
    · rw [List.take_of_length_le (by omega), List.take_of_length_le (by omega)] at he
      simp only [WS, List.getElem_cons_zero, List.getElem_cons_succ, Option.isNone_some, Option.isNone_none, List.getD_cons_zero, List.getD_cons_succ, I.at, atL, atO, atP, evp, evs, retV, ↓reduceIte, Nat.reduceEqDiff, reduceCtorEq, t0, t1, t5, g1.Xlen, show decide ((i : Int) < (l1.length : Int)) = false from decide_eq_false (by omega), decide_eq_true he]
      exact hk
  · have : ¬ l1 = l2 := fun e => hl (by rw [e])
    simp only [WS, List.getElem_cons_zero, List.getElem_cons_succ, Option.isNone_some, Option.isNone_none, List.getD_cons_zero, List.getD_cons_succ, I.at, atL, atO, atP, evp, evs, retV, ↓reduceIte, Nat.reduceEqDiff, reduceCtorEq, show decide ((l1.length : Int) = (l2.length : Int)) = false from decide_eq_false (by omega), decide_eq_false this]
    exact Like.refl w
end Go.Proofs.Ytcnabolainmaeaa.Fw

namespace Go.Proofs.Ytcnabolainmaeaa.Fw
open Go Go.Fw
theorem culletlaw13_twin_spec (w : World) (s : Value) (l : List (El 16)) (h : Sl w s l) (hb : l.length ≤ 70368744175616) :
    CallV Try.prog 19 [s] w fun v w' => Ow w.heap.size w' v l ∧ RowKit.Below w.heap.size w w' := by
  refine run_culletlaw13_twin (by simp) ?_
  simp only [c_culletlaw13_twin, WS, List.getElem_cons_zero, List.getElem_cons_succ, Option.isNone_some, Option.isNone_none, List.getD_cons_zero, List.getD_cons_succ, I.at, atL, atO, atP, evp, evs, retV, ↓reduceIte, Nat.reduceEqDiff, reduceCtorEq, h.Xlen]
  refine X_mks (x := (0 : El 16)) ?_ ?_ fun p w1 ho hB => ?_
  · simp only [maxBytes]; omega
  · omega
  simp only [WS, List.getElem_cons_zero, List.getElem_cons_succ, Option.isNone_some, Option.isNone_none, List.getD_cons_zero, List.getD_cons_succ, I.at, atL, atO, atP, evp, evs, retV, ↓reduceIte, Nat.reduceEqDiff, reduceCtorEq]
  refine Ow.Xcpy ho (h.up hB) fun w2 ho2 hg => ?_
  simp only [WS, List.getElem_cons_zero, List.getElem_cons_succ, Option.isNone_some, Option.isNone_none, List.getD_cons_zero, List.getD_cons_succ, I.at, atL, atO, atP, evp, evs, retV, ↓reduceIte, Nat.reduceEqDiff, reduceCtorEq]
  have e : l.take (List.replicate l.length (0 : El 16)).length ++ (List.replicate l.length (0 : El 16)).drop l.length = l := by simp
  rw [e] at ho2
  exact ⟨ho2, hB.grown hg hB.size fun b hb => (ho.blk b hb).1⟩
end Go.Proofs.Ytcnabolainmaeaa.Fw

namespace Go.Proofs.Ytcnabolainmaeaa.Fw
open Go Go.Fw
theorem co_four {m : List (El 16)} {a b c d : El 16} (hl : m.length = 4) (h0 : (co m).c 0 = a) (h1 : (co m).c 1 = b) (h2 : (co m).c 2 = c) (h3 : (co m).c 3 = d) : m = [a, b, c, d] := by
  match m, hl with
  | [x, y, z, u], _ => subst h0; subst h1; subst h2; subst h3; rfl
theorem culletlaw13_awake_spec (w : World) : CallV Try.prog 12 [] w fun v w' => v = .bool true ∧ RowKit.Below w.heap.size w w' := by
  refine run_culletlaw13_awake (by simp) ?_
  simp only [c_culletlaw13_awake, WS, List.getElem_cons_zero, List.getElem_cons_succ, Option.isNone_some, Option.isNone_none, List.getD_cons_zero, List.getD_cons_succ, I.at, atL, atO, atP, evp, evs, retV, ↓reduceIte, Nat.reduceEqDiff, reduceCtorEq]
  refine X_call0 ((lch_Linear_spec w 3).mono ?_)
  rintro _ w1 ⟨hB, ⟨-, -, s1, m, rfl, om, ml, mc⟩ | ⟨hbad, -⟩⟩
  rotate_left
  · exact absurd ⟨by decide, by decide⟩ hbad
  have B := hB
  clear hB
  have hm : m = [⟨1⟩, ⟨1⟩, ⟨1⟩, ⟨1⟩] := co_four ml (by rw [mc]; decide +kernel) (by rw [mc]; decide +kernel) (by rw [mc]; decide +kernel) (by rw [mc]; decide +kernel)
  have om := om.sl
  simp (maxSteps := 1000000) (disch := omega) only [WS, List.getElem_cons_zero, List.getElem_cons_succ, Option.isNone_some, Option.isNone_none, List.getD_cons_zero, List.getD_cons_succ, I.at, atL, atO, atP, evp, evs, retV, ↓reduceIte, Nat.reduceEqDiff, reduceCtorEq, AS]
  refine X_bsl (zs := [(⟨1⟩ : El 16), ⟨1⟩, ⟨1⟩, ⟨1⟩]) (by rfl) (by rfl) fun c1 w2 oc hB => ?_
  have oc := oc.sl
  have om := om.up hB
  have B := B.trans (hB.mono B.size)
  clear hB
  simp (maxSteps := 1000000) (disch := omega) only [WS, List.getElem_cons_zero, List.getElem_cons_succ, Option.isNone_some, Option.isNone_none, List.getD_cons_zero, List.getD_cons_succ, I.at, atL, atO, atP, evp, evs, retV, ↓reduceIte, Nat.reduceEqDiff, reduceCtorEq, AS]
  refine X_call0 ((culletlaw13_same_spec w2 s1 c1 _ _ om oc (by omega) (by simp)).mono ?_)
  rintro _ w3 ⟨rfl, hk⟩
  have hB := hk.1
  have B := B.trans (hB.mono B.size)
  clear hB
  clear hk om oc
  rw [decide_eq_true hm]
  simp (maxSteps := 1000000) (disch := omega) only [WS, List.getElem_cons_zero, List.getElem_cons_succ, Option.isNone_some, Option.isNone_none, List.getD_cons_zero, List.getD_cons_succ, I.at, atL, atO, atP, evp, evs, retV, ↓reduceIte, Nat.reduceEqDiff, reduceCtorEq, AS]
  refine X_bsl (zs := [(⟨9⟩ : El 16), ⟨1⟩, ⟨2⟩, ⟨4⟩]) (by rfl) (by rfl) fun c2 w4 oc hB => ?_
  have oc := oc.sl
  have B := B.trans (hB.mono B.size)
  clear hB
  simp (maxSteps := 1000000) (disch := omega) only [WS, List.getElem_cons_zero, List.getElem_cons_succ, Option.isNone_some, Option.isNone_none, List.getD_cons_zero, List.getD_cons_succ, I.at, atL, atO, atP, evp, evs, retV, ↓reduceIte, Nat.reduceEqDiff, reduceCtorEq, AS]
  refine X_call0 ((lch_Derivative_spec w4 c2 _ oc (by simp)).mono ?_)
  rintro _ w5 ⟨hB, ⟨k, hk, hlk, sv, d, rfl, od, dl, hd⟩ | ⟨hbad, -⟩⟩
  rotate_left
  · exact absurd ⟨by simp, by simp, by simp⟩ hbad
  obtain rfl : k = 2 := (Nat.pow_right_inj (a := 2) (by omega)).1 (show 2 ^ k = 2 ^ 2 from hlk.symm)
  have od := od.sl
  have B := B.trans (hB.mono B.size)
  clear hB
  clear oc
  have hdm : d = [⟨3⟩, ⟨4⟩, ⟨4⟩, ⟨0⟩] := co_four dl (by rw [hd 0 (by decide)]; decide +kernel) (by rw [hd 1 (by decide)]; decide +kernel) (by rw [hd 2 (by decide)]; decide +kernel) (by rw [hd 3 (by decide)]; decide +kernel)
  simp (maxSteps := 1000000) (disch := omega) only [WS, List.getElem_cons_zero, List.getElem_cons_succ, Option.isNone_some, Option.isNone_none, List.getD_cons_zero, List.getD_cons_succ, I.at, atL, atO, atP, evp, evs, retV, ↓reduceIte, Nat.reduceEqDiff, reduceCtorEq, AS]
  refine X_bsl (zs := [(⟨3⟩ : El 16), ⟨4⟩, ⟨4⟩, ⟨0⟩]) (by rfl) (by rfl) fun c3 w6 oc hB => ?_
  have oc := oc.sl
  have od := od.up hB
  have B := B.trans (hB.mono B.size)
  clear hB
  simp (maxSteps := 1000000) (disch := omega) only [WS, List.getElem_cons_zero, List.getElem_cons_succ, Option.isNone_some, Option.isNone_none, List.getD_cons_zero, List.getD_cons_succ, I.at, atL, atO, atP, evp, evs, retV, ↓reduceIte, Nat.reduceEqDiff, reduceCtorEq, AS]
  refine X_call0 ((culletlaw13_same_spec w6 sv c3 _ _ od oc (by omega) (by simp)).mono ?_)
  rintro _ w7 ⟨rfl, hk⟩
  have hB := hk.1
  have B := B.trans (hB.mono B.size)
  clear hB
  clear hk od oc
  rw [decide_eq_true hdm]
  simp (maxSteps := 1000000) (disch := omega) only [WS, List.getElem_cons_zero, List.getElem_cons_succ, Option.isNone_some, Option.isNone_none, List.getD_cons_zero, List.getD_cons_succ, I.at, atL, atO, atP, evp, evs, retV, ↓reduceIte, Nat.reduceEqDiff, reduceCtorEq, AS]
  refine X_call0 ((lch_Skew_spec w7 2 7).mono ?_)
  rintro _ w8 ⟨hB, ⟨-, -, -, -, rfl⟩ | ⟨hbad, -⟩ | ⟨-, -, hbad, -⟩⟩
  rotate_left
  · exact absurd ⟨by decide, by decide⟩ hbad
  · exact absurd ⟨by decide, by decide⟩ hbad
  have B := B.trans (hB.mono B.size)
  clear hB
  rw [show wel ((7 : Int).toNat >>> (2 : Int).toNat) = 1 from wel_one]
  simp (maxSteps := 1000000) (disch := omega) only [WS, List.getElem_cons_zero, List.getElem_cons_succ, Option.isNone_some, Option.isNone_none, List.getD_cons_zero, List.getD_cons_succ, I.at, atL, atO, atP, evp, evs, retV, ↓reduceIte, Nat.reduceEqDiff, reduceCtorEq, AS, show decide ((((1 : El 16).v.toNat : Nat) : Int) = 1) = true from by decide +kernel]
  exact B
end Go.Proofs.Ytcnabolainmaeaa.Fw
