import Derived.Test.YtbaljbadlfopgaaProg
import Derived.Test.YtbaljbadlfopgaaFwTY
import Derived.Test.YtbaljbadlfopgaaSMrY
import Derived.Test.YtbaljbadlfopgaaSMcolY
set_option linter.all false
set_option linter.unusedVariables false
set_option linter.unusedSimpArgs false
set_option maxRecDepth 100000
set_option maxHeartbeats 1000000
namespace Go.Proofs.Ytbaljbadlfopgaa.Fw
open Go Go.Fw Go.Proofs
attribute [local irreducible] stepI
def c_culletlaw19_sameBytes : C := .seq (.ops [⟨0, (some 4), none, .mov (.c (.bool false)), []⟩]) (.seq (.seq (.ops [⟨0, (some 6), none, .mov (.t 0), []⟩, ⟨1, (some 7), none, .len (.t 6), []⟩, ⟨2, (some 8), none, .mov (.t 1), []⟩, ⟨3, (some 9), none, .len (.t 8), []⟩, ⟨4, (some 10), none, .bin .neq (.t 7) (.t 9), []⟩]) (.ite (.t 10) (.seq (.ops [⟨0, (some 4), none, .mov (.c (.bool false)), []⟩]) .ret) .skip)) (.seq (.seq (.ops [⟨0, (some 5), none, .mov (.c (.int .i64 0)), []⟩]) (.block 0 (.loop (.seq (.seq (.ops [⟨0, (some 11), none, .mov (.t 5), []⟩, ⟨1, (some 12), none, .mov (.t 0), []⟩, ⟨2, (some 13), none, .len (.t 12), []⟩, ⟨3, (some 14), none, .bin .lss (.t 11) (.t 13), []⟩]) (.ite (.t 14) .skip (.exit 0))) (.seq (.block 1 (.seq (.dops [⟨0, (some 17), none, .mov (.t 0), []⟩, ⟨1, (some 18), none, .mov (.t 5), []⟩, ⟨2, (some 19), none, .ixs 1 (.t 17) (.t 18), []⟩, ⟨3, (some 20), none, .ld (.t 19), []⟩, ⟨4, (some 21), none, .mov (.t 1), []⟩, ⟨5, (some 22), none, .mov (.t 5), []⟩, ⟨6, (some 23), none, .ixs 1 (.t 21) (.t 22), []⟩, ⟨7, (some 24), none, .ld (.t 23), []⟩, ⟨8, (some 25), none, .bin .neq (.t 20) (.t 24), []⟩]) (.ite (.t 25) (.seq (.ops [⟨0, (some 4), none, .mov (.c (.bool false)), []⟩]) .ret) .skip))) (.ops [⟨0, (some 15), none, .mov (.t 5), []⟩, ⟨1, (some 16), none, .bin .add (.t 15) (.c (.int .i64 1)), []⟩, ⟨2, (some 5), none, .mov (.t 16), []⟩])))))) (.seq (.ops [⟨0, (some 4), none, .mov (.c (.bool true)), []⟩]) .ret)))
attribute [irreducible] c_culletlaw19_sameBytes
theorem run_culletlaw19_sameBytes {args : List Value} {w : World} {K : Value → World → Prop} (hn : args.length ≤ 26) (h : WP Try.prog c_culletlaw19_sameBytes (endQ [.t 4] K) (initT args) w) : CallV Try.prog 17 args w K :=
  call_of follows Try.func17 (by kernel_rfl) (by kernel_rfl) hn h
def c_culletlaw19_sameInts : C := .seq (.ops [⟨0, (some 4), none, .mov (.c (.bool false)), []⟩]) (.seq (.seq (.ops [⟨0, (some 6), none, .mov (.t 0), []⟩, ⟨1, (some 7), none, .len (.t 6), []⟩, ⟨2, (some 8), none, .mov (.t 1), []⟩, ⟨3, (some 9), none, .len (.t 8), []⟩, ⟨4, (some 10), none, .bin .neq (.t 7) (.t 9), []⟩]) (.ite (.t 10) (.seq (.ops [⟨0, (some 4), none, .mov (.c (.bool false)), []⟩]) .ret) .skip)) (.seq (.seq (.ops [⟨0, (some 5), none, .mov (.c (.int .i64 0)), []⟩]) (.block 0 (.loop (.seq (.seq (.ops [⟨0, (some 11), none, .mov (.t 5), []⟩, ⟨1, (some 12), none, .mov (.t 0), []⟩, ⟨2, (some 13), none, .len (.t 12), []⟩, ⟨3, (some 14), none, .bin .lss (.t 11) (.t 13), []⟩]) (.ite (.t 14) .skip (.exit 0))) (.seq (.block 1 (.seq (.dops [⟨0, (some 17), none, .mov (.t 0), []⟩, ⟨1, (some 18), none, .mov (.t 5), []⟩, ⟨2, (some 19), none, .ixs 1 (.t 17) (.t 18), []⟩, ⟨3, (some 20), none, .ld (.t 19), []⟩, ⟨4, (some 21), none, .mov (.t 1), []⟩, ⟨5, (some 22), none, .mov (.t 5), []⟩, ⟨6, (some 23), none, .ixs 1 (.t 21) (.t 22), []⟩, ⟨7, (some 24), none, .ld (.t 23), []⟩, ⟨8, (some 25), none, .bin .neq (.t 20) (.t 24), []⟩]) (.ite (.t 25) (.seq (.ops [⟨0, (some 4), none, .mov (.c (.bool false)), []⟩]) .ret) .skip))) (.ops [⟨0, (some 15), none, .mov (.t 5), []⟩, ⟨1, (some 16), none, .bin .add (.t 15) (.c (.int .i64 1)), []⟩, ⟨2, (some 5), none, .mov (.t 16), []⟩])))))) (.seq (.ops [⟨0, (some 4), none, .mov (.c (.bool true)), []⟩]) .ret)))
attribute [irreducible] c_culletlaw19_sameInts
theorem run_culletlaw19_sameInts {args : List Value} {w : World} {K : Value → World → Prop} (hn : args.length ≤ 26) (h : WP Try.prog c_culletlaw19_sameInts (endQ [.t 4] K) (initT args) w) : CallV Try.prog 20 args w K :=
  call_of follows Try.func20 (by kernel_rfl) (by kernel_rfl) hn h
end Go.Proofs.Ytbaljbadlfopgaa.Fw
namespace Go.Proofs.Ytbaljbadlfopgaa.Fw
open Go Go.Fw
theorem culletlaw19_sameBytes_spec (w : World) (s1 s2 : Value) (l1 l2 : List (El 8)) (h1 : Sl w s1 l1) (h2 : Sl w s2 l2) (hb : l1.length ≤ 140737488355328) (hb2 : l2.length ≤ 140737488355328) :
    CallV Try.prog 17 [s1, s2] w fun v w' => v = .bool (decide (l1 = l2)) ∧ Like w w' := by
  refine run_culletlaw19_sameBytes (by simp) ?_
  simp only [c_culletlaw19_sameBytes, WS, List.getElem_cons_zero, List.getElem_cons_succ, Option.isNone_some, Option.isNone_none, List.getD_cons_zero, List.getD_cons_succ, I.at, atL, atO, atP, evp, evs, retV, ↓reduceIte, Nat.reduceEqDiff, reduceCtorEq, h1.Xlen, h2.Xlen]
  by_cases hl : l1.length = l2.length
  · simp only [WS, List.getElem_cons_zero, List.getElem_cons_succ, Option.isNone_some, Option.isNone_none, List.getD_cons_zero, List.getD_cons_succ, I.at, atL, atO, atP, evp, evs, retV, ↓reduceIte, Nat.reduceEqDiff, reduceCtorEq, show decide ((l1.length : Int) = (l2.length : Int)) = true from decide_eq_true (by omega)]
    refine loop_of (fun t w' => Like w w' ∧ t 0 = s1 ∧ t 1 = s2 ∧ ∃ i : Nat, t 5 = .int .i64 (i : Int) ∧ i ≤ l1.length ∧ l1.take i = l2.take i) (fun t _ => l1.length - (toI (t 5)).toNat) ⟨Like.refl w, rfl, rfl, 0, rfl, by omega, by simp⟩ ?_
    rintro t w' ⟨hk, t0, t1, i, t5, hi, he⟩
    have g1 := hk.sl h1
    have g2 := hk.sl h2
    by_cases hlt : i < l1.length
    · have hlt2 : i < l2.length := by omega
      simp only [WS, List.getElem_cons_zero, List.getElem_cons_succ, Option.isNone_some, Option.isNone_none, List.getD_cons_zero, List.getD_cons_succ, I.at, atL, atO, atP, evp, evs, retV, ↓reduceIte, Nat.reduceEqDiff, reduceCtorEq, t0, t1, t5, g1.Xlen, show decide ((i : Int) < (l1.length : Int)) = true from decide_eq_true (by omega)]
      refine WP_dops ?_
      simp only [ES, List.mem_cons, List.not_mem_nil, implies_true, forall_const, WS, List.getElem_cons_zero, List.getElem_cons_succ, Option.isNone_some, Option.isNone_none, List.getD_cons_zero, List.getD_cons_succ, I.at, atL, atO, atP, evp, evs, retV, ↓reduceIte, Nat.reduceEqDiff, reduceCtorEq, t0, t1, t5, g1.drew.Eix hlt, g1.drew.Eld hlt, g2.drew.Eix hlt2, g2.drew.Eld hlt2, cell_e8, el_eq]
      by_cases hx : l1[i] = l2[i]
      · simp only [WS, List.getElem_cons_zero, List.getElem_cons_succ, Option.isNone_some, Option.isNone_none, List.getD_cons_zero, List.getD_cons_succ, I.at, atL, atO, atP, evp, evs, retV, ↓reduceIte, Nat.reduceEqDiff, reduceCtorEq, t0, t1, t5, decide_eq_true hx, wrap_id (show -9223372036854775808 ≤ (i : Int) + 1 by omega) (show (i : Int) + 1 < 9223372036854775808 by omega), toI_int]
        refine ⟨⟨hk.trans (Like.drew _), i + 1, rfl, by omega, ?_⟩, by omega⟩
        rw [List.take_add_one, List.take_add_one, he, List.getElem?_eq_getElem hlt, List.getElem?_eq_getElem hlt2, hx]
      · have : ¬ l1 = l2 := fun e => hx (by subst e; rfl)
        simp only [WS, List.getElem_cons_zero, List.getElem_cons_succ, Option.isNone_some, Option.isNone_none, List.getD_cons_zero, List.getD_cons_succ, I.at, atL, atO, atP, evp, evs, retV, ↓reduceIte, Nat.reduceEqDiff, reduceCtorEq, t0, t1, t5, decide_eq_false hx, decide_eq_false this]
        exact hk.trans (Like.drew _)
    · rw [List.take_of_length_le (by omega), List.take_of_length_le (by omega)] at he
      simp only [WS, List.getElem_cons_zero, List.getElem_cons_succ, Option.isNone_some, Option.isNone_none, List.getD_cons_zero, List.getD_cons_succ, I.at, atL, atO, atP, evp, evs, retV, ↓reduceIte, Nat.reduceEqDiff, reduceCtorEq, t0, t1, t5, g1.Xlen, show decide ((i : Int) < (l1.length : Int)) = false from decide_eq_false (by omega), decide_eq_true he]
      exact hk
  · have : ¬ l1 = l2 := fun e => hl (by rw [e])
    simp only [WS, List.getElem_cons_zero, List.getElem_cons_succ, Option.isNone_some, Option.isNone_none, List.getD_cons_zero, List.getD_cons_succ, I.at, atL, atO, atP, evp, evs, retV, ↓reduceIte, Nat.reduceEqDiff, reduceCtorEq, show decide ((l1.length : Int) = (l2.length : Int)) = false from decide_eq_false (by omega), decide_eq_false this]
    exact Like.refl w
theorem culletlaw19_sameInts_spec (w : World) (s1 s2 : Value) (l1 l2 : List Int) (h1 : Sl w s1 l1) (h2 : Sl w s2 l2) (hb : l1.length ≤ 140737488355328) (hb2 : l2.length ≤ 140737488355328) :
    CallV Try.prog 20 [s1, s2] w fun v w' => v = .bool (decide (l1 = l2)) ∧ Like w w' := by
  refine run_culletlaw19_sameInts (by simp) ?_
  simp only [c_culletlaw19_sameInts, WS, List.getElem_cons_zero, List.getElem_cons_succ, Option.isNone_some, Option.isNone_none, List.getD_cons_zero, List.getD_cons_succ, I.at, atL, atO, atP, evp, evs, retV, ↓reduceIte, Nat.reduceEqDiff, reduceCtorEq, h1.Xlen, h2.Xlen]
  by_cases hl : l1.length = l2.length
  · simp only [WS, List.getElem_cons_zero, List.getElem_cons_succ, Option.isNone_some, Option.isNone_none, List.getD_cons_zero, List.getD_cons_succ, I.at, atL, atO, atP, evp, evs, retV, ↓reduceIte, Nat.reduceEqDiff, reduceCtorEq, show decide ((l1.length : Int) = (l2.length : Int)) = true from decide_eq_true (by omega)]
    refine loop_of (fun t w' => Like w w' ∧ t 0 = s1 ∧ t 1 = s2 ∧ ∃ i : Nat, t 5 = .int .i64 (i : Int) ∧ i ≤ l1.length ∧ l1.take i = l2.take i) (fun t _ => l1.length - (toI (t 5)).toNat) ⟨Like.refl w, rfl, rfl, 0, rfl, by omega, by simp⟩ ?_
    rintro t w' ⟨hk, t0, t1, i, t5, hi, he⟩
    have g1 := hk.sl h1
    have g2 := hk.sl h2
    by_cases hlt : i < l1.length
    · have hlt2 : i < l2.length := by omega
      simp only [WS, List.getElem_cons_zero, List.getElem_cons_succ, Option.isNone_some, Option.isNone_none, List.getD_cons_zero, List.getD_cons_succ, I.at, atL, atO, atP, evp, evs, retV, ↓reduceIte, Nat.reduceEqDiff, reduceCtorEq, t0, t1, t5, g1.Xlen, show decide ((i : Int) < (l1.length : Int)) = true from decide_eq_true (by omega)]
      refine WP_dops ?_
      simp only [ES, List.mem_cons, List.not_mem_nil, implies_true, forall_const, WS, List.getElem_cons_zero, List.getElem_cons_succ, Option.isNone_some, Option.isNone_none, List.getD_cons_zero, List.getD_cons_succ, I.at, atL, atO, atP, evp, evs, retV, ↓reduceIte, Nat.reduceEqDiff, reduceCtorEq, t0, t1, t5, g1.drew.Eix hlt, g1.drew.Eld hlt, g2.drew.Eix hlt2, g2.drew.Eld hlt2, cell_int]
      by_cases hx : l1[i] = l2[i]
      · simp only [WS, List.getElem_cons_zero, List.getElem_cons_succ, Option.isNone_some, Option.isNone_none, List.getD_cons_zero, List.getD_cons_succ, I.at, atL, atO, atP, evp, evs, retV, ↓reduceIte, Nat.reduceEqDiff, reduceCtorEq, t0, t1, t5, decide_eq_true hx, wrap_id (show -9223372036854775808 ≤ (i : Int) + 1 by omega) (show (i : Int) + 1 < 9223372036854775808 by omega), toI_int]
        refine ⟨⟨hk.trans (Like.drew _), i + 1, rfl, by omega, ?_⟩, by omega⟩
        rw [List.take_add_one, List.take_add_one, he, List.getElem?_eq_getElem hlt, List.getElem?_eq_getElem hlt2, hx]
      · have : ¬ l1 = l2 := fun e => hx (by subst e; rfl)
        simp only [WS, List.getElem_cons_zero, List.getElem_cons_succ, Option.isNone_some, Option.isNone_none, List.getD_cons_zero, List.getD_cons_succ, I.at, atL, atO, atP, evp, evs, retV, ↓reduceIte, Nat.reduceEqDiff, reduceCtorEq, t0, t1, t5, decide_eq_false hx, decide_eq_false this]
        exact hk.trans (Like.drew _)
    · rw [List.take_of_length_le (by omega), List.take_of_length_le (by omega)] at he
      simp only [WS, List.getElem_cons_zero, List.getElem_cons_succ, Option.isNone_some, Option.isNone_none, List.getD_cons_zero, List.getD_cons_succ, I.at, atL, atO, atP, evp, evs, retV, ↓reduceIte, Nat.reduceEqDiff, reduceCtorEq, t0, t1, t5, g1.Xlen, show decide ((i : Int) < (l1.length : Int)) = false from decide_eq_false (by omega), decide_eq_true he]
      exact hk
  · have : ¬ l1 = l2 := fun e => hl (by rw [e])
    simp only [WS, List.getElem_cons_zero, List.getElem_cons_succ, Option.isNone_some, Option.isNone_none, List.getD_cons_zero, List.getD_cons_succ, I.at, atL, atO, atP, evp, evs, retV, ↓reduceIte, Nat.reduceEqDiff, reduceCtorEq, show decide ((l1.length : Int) = (l2.length : Int)) = false from decide_eq_false (by omega), decide_eq_false this]
    exact Like.refl w
end Go.Proofs.Ytbaljbadlfopgaa.Fw

set_option linter.unusedVariables false
set_option linter.unusedSimpArgs false
set_option maxRecDepth 100000
set_option maxHeartbeats 1000000
namespace Go.Proofs.Ytbaljbadlfopgaa.Fw
open Go Go.Fw Go.Proofs
attribute [local irreducible] stepI
def c_culletlaw19_awake : C := .seq (.ops [⟨0, (some 0), none, .mov (.c (.bool false)), []⟩]) (.seq (.ops [⟨0, (some 5), none, .bsl 3 4 [.int .i64 0] [(0, (1, .c (.int .i64 0))), (1, (1, .c (.int .i64 1))), (2, (1, .c (.int .i64 2))), (3, (1, .c (.int .i64 3)))], []⟩, ⟨1, (some 6), none, .bsl 5 4 [.int .u8 0] [(0, (1, .c (.int .u8 0))), (1, (1, .c (.int .u8 1))), (2, (1, .c (.int .u8 7))), (3, (1, .c (.int .u8 3)))], []⟩, ⟨2, (some 7), none, .call (.c (.func (.func 19) #[] #[])) [.c (.int .i64 2), .t 5, .t 6], []⟩, ⟨3, (some 4), none, .mov (.t 7), []⟩, ⟨4, (some 8), none, .ext (.t 4) 0, []⟩, ⟨5, (some 9), none, .ext (.t 4) 1, []⟩, ⟨6, (some 10), none, .ext (.t 4) 2, []⟩, ⟨7, (some 1), none, .mov (.t 8), []⟩, ⟨8, (some 2), none, .mov (.t 9), []⟩, ⟨9, (some 3), none, .mov (.t 10), []⟩]) (.seq (.ops [⟨0, (some 11), none, .mov (.t 3), []⟩, ⟨1, (some 12), none, .bin .eql (.t 11) (.c (.int .i64 0)), []⟩, ⟨2, (some 13), none, .mov (.t 12), []⟩, ⟨3, (some 14), (some (13, true)), .mov (.t 1), []⟩, ⟨4, (some 15), (some (13, true)), .bsl 5 4 [.int .u8 0] [(0, (1, .c (.int .u8 0))), (1, (1, .c (.int .u8 1))), (2, (1, .c (.int .u8 2))), (3, (1, .c (.int .u8 3)))], []⟩, ⟨5, (some 16), (some (13, true)), .call (.c (.func (.func 17) #[] #[])) [.t 14, .t 15], []⟩, ⟨6, (some 17), none, .pick (.t 13) (.t 16) (.c (.bool false)), []⟩, ⟨7, (some 18), none, .mov (.t 17), []⟩, ⟨8, (some 19), (some (18, true)), .mov (.t 2), []⟩, ⟨9, (some 20), (some (18, true)), .bsl 3 1 [.int .i64 0] [(0, (1, .c (.int .i64 2)))], []⟩, ⟨10, (some 21), (some (18, true)), .call (.c (.func (.func 20) #[] #[])) [.t 19, .t 20], []⟩, ⟨11, (some 22), none, .pick (.t 18) (.t 21) (.c (.bool false)), []⟩, ⟨12, (some 0), none, .mov (.t 22), []⟩]) .ret))
attribute [irreducible] c_culletlaw19_awake
theorem run_culletlaw19_awake {args : List Value} {w : World} {K : Value → World → Prop} (hn : args.length ≤ 23) (h : WP Try.prog c_culletlaw19_awake (endQ [.t 0] K) (initT args) w) : CallV Try.prog 13 args w K :=
  call_of follows Try.func13 (by kernel_rfl) (by kernel_rfl) hn h
end Go.Proofs.Ytbaljbadlfopgaa.Fw
namespace Go.Proofs.Ytbaljbadlfopgaa.Fw
open Go Go.Fw
theorem offP_uniq {P : List Int} {Y : List (El 8)} {k : Nat} {g g' : List (El 8)} (h : asc P P.length) (hk : k ≤ P.length) (tg : tr g = g) (tg' : tr g' = g') (hg : g.length ≤ k) (hg' : g'.length ≤ k)
    (ho : (offP g P Y).length ≤ (P.length - k) / 2) (ho' : (offP g' P Y).length ≤ (P.length - k) / 2) : g = g' := near_uniq (X := nth (xsP P)) (Y := nth Y) (N := P.length) (xsP_dist h) hk tg tg' hg hg' (by unfold offP at ho ho'; omega)
/-- What is near is what Column answers. -/
theorem mend_Column_near (w : World) (k : Nat) (s1 s2 : Value) (P : List Int) (Y g : List (El 8)) (h1 : Sl w s1 P) (h2 : Sl w s2 Y) (hk1 : 1 ≤ k) (hk : k ≤ P.length) (hP : P.length ≤ 256) (hY : Y.length = P.length) (ha : asc P P.length) (tg : tr g = g) (hg : g.length ≤ k) (ho : (offP g P Y).length ≤ (P.length - k) / 2) :
    CallV Try.prog 19 [.int .i64 (k : Int), s1, s2] w fun v w' => RowKit.Below w.heap.size w w' ∧ ∃ (sf so : Value), v = .tuple #[sf, so, .int .i64 0] ∧ Ow w.heap.size w' sf ((xsP P).map (evl g)) ∧ Ow w.heap.size w' so ((offP g P Y).map fun j => P.getD j 0) := by
  refine (mend_Column_spec w k s1 s2 P Y h1 h2 (by omega) (by omega)).mono ?_
  rintro v w' ⟨B, ⟨g1, -⟩ | ⟨-, g2, -⟩ | ⟨-, -, g3, -⟩ | ⟨-, -, -, g4, -⟩ | ⟨-, -, -, -, ⟨sf, so, g', rfl, of, oo, tg', hg', ho'⟩ | ⟨-, hfar⟩⟩⟩
  · omega
  · exact absurd ha g2
  · exact absurd hY g3
  · omega
  · rw [Int.toNat_natCast] at hg' ho'
    have he := offP_uniq ha hk tg' tg hg' hg ho' ho
    subst he
    exact ⟨B, sf, so, rfl, of, oo⟩
  · have := hfar g tg (by rw [Int.toNat_natCast]; exact hg)
    rw [Int.toNat_natCast] at this
    omega
theorem asc_of {P : List Int} (h : ∀ p ∈ P, 0 ≤ p ∧ p ≤ 255) (hp : P.Pairwise (· < ·)) : asc P P.length := fun i hi _ => by
  obtain ⟨a, b⟩ := h _ (List.getElem_mem hi)
  exact ⟨a, b, fun j hj hji => List.pairwise_iff_getElem.1 hp j i hj hi hji⟩
theorem evl_X (x : El 8) : evl [0, 1] x = x := by
  show (0 : El 8) + x * (1 + x * 0) = x
  rw [El.mul_zero, El.add_zero, El.mul_one, El.zero_add]
theorem awake19 : ∃ (P : List Int) (Y F : List (El 8)), P = [0, 1, 2, 3] ∧ Y = [⟨0⟩, ⟨1⟩, ⟨7⟩, ⟨3⟩] ∧ F = [⟨0⟩, ⟨1⟩, ⟨2⟩, ⟨3⟩] ∧ asc P P.length ∧ P.length = 4 ∧ Y.length = 4 ∧ F.length = 4 ∧ (xsP P).map (evl [0, 1]) = F ∧ offP [0, 1] P Y = [2] ∧ P.getD 2 0 = 2 := by
  refine ⟨_, _, _, rfl, rfl, rfl, asc_of (by decide) (by decide), rfl, rfl, rfl, ?_, ?_, rfl⟩
  · simp only [funext evl_X, List.map_id']
    decide
  · unfold offP offs
    simp only [evl_X]
    decide
theorem culletlaw19_awake_spec (w : World) : CallV Try.prog 13 [] w fun v w' => v = .bool true ∧ RowKit.Below w.heap.size w w' := by
  obtain ⟨P, Y, F, eP, eY, eF, ha, lP, lY, lF, hv, ho, h2⟩ := awake19
  refine run_culletlaw19_awake (by simp) ?_
  simp only [c_culletlaw19_awake, WS, List.getElem_cons_zero, List.getElem_cons_succ, Option.isNone_some, Option.isNone_none, List.getD_cons_zero, List.getD_cons_succ, I.at, atL, atO, atP, evp, evs, retV, ↓reduceIte, Nat.reduceEqDiff, reduceCtorEq]
  refine X_bsl (zs := P) (by rw [eP]; rfl) (by rw [eP]; rfl) fun s1 w1 o1 hB => ?_
  have B := hB
  clear hB
  have o1 := o1.sl
  simp (maxSteps := 1000000) (disch := omega) only [WS, List.getElem_cons_zero, List.getElem_cons_succ, Option.isNone_some, Option.isNone_none, List.getD_cons_zero, List.getD_cons_succ, I.at, atL, atO, atP, evp, evs, retV, ↓reduceIte, Nat.reduceEqDiff, reduceCtorEq, AS]
  refine X_bsl (zs := Y) (by rw [eY]; rfl) (by rw [eY]; rfl) fun s2 w2 o2 hB => ?_
  have o2 := o2.sl
  have o1 := o1.up hB
  have B := B.trans (hB.mono B.size)
  clear hB
  clear eP eY
  simp (maxSteps := 1000000) (disch := omega) only [WS, List.getElem_cons_zero, List.getElem_cons_succ, Option.isNone_some, Option.isNone_none, List.getD_cons_zero, List.getD_cons_succ, I.at, atL, atO, atP, evp, evs, retV, ↓reduceIte, Nat.reduceEqDiff, reduceCtorEq, AS]
  refine X_call0 ((mend_Column_near w2 2 s1 s2 P Y [0, 1] o1 o2 (by decide) (by omega) (by omega) (by omega) ha (by decide) (by decide) (by rw [ho, lP]; decide)).mono ?_)
  rintro _ w3 ⟨hB, sf, so, rfl, of, oo⟩
  rw [hv] at of
  rw [ho] at oo
  have of := of.sl
  have oo := oo.sl
  have B := B.trans (hB.mono B.size)
  clear hB
  simp (maxSteps := 1000000) (disch := omega) only [WS, List.getElem_cons_zero, List.getElem_cons_succ, Option.isNone_some, Option.isNone_none, List.getD_cons_zero, List.getD_cons_succ, I.at, atL, atO, atP, evp, evs, retV, ↓reduceIte, Nat.reduceEqDiff, reduceCtorEq, AS, show decide ((0 : Int) = 0) = true from rfl]
  refine X_bsl (zs := F) (by rw [eF]; rfl) (by rw [eF]; rfl) fun s3 w4 o3 hB => ?_
  have o3 := o3.sl
  have of := of.up hB
  have oo := oo.up hB
  have B := B.trans (hB.mono B.size)
  clear hB
  simp (maxSteps := 1000000) (disch := omega) only [WS, List.getElem_cons_zero, List.getElem_cons_succ, Option.isNone_some, Option.isNone_none, List.getD_cons_zero, List.getD_cons_succ, I.at, atL, atO, atP, evp, evs, retV, ↓reduceIte, Nat.reduceEqDiff, reduceCtorEq, AS]
  refine X_call0 ((culletlaw19_sameBytes_spec w4 sf s3 F F of o3 (by omega) (by omega)).mono ?_)
  rintro _ w5 ⟨rfl, hk⟩
  have hB := hk.1
  clear hk
  have oo := oo.up hB
  have B := B.trans (hB.mono B.size)
  clear hB
  simp (maxSteps := 1000000) (disch := omega) only [WS, List.getElem_cons_zero, List.getElem_cons_succ, Option.isNone_some, Option.isNone_none, List.getD_cons_zero, List.getD_cons_succ, I.at, atL, atO, atP, evp, evs, retV, ↓reduceIte, Nat.reduceEqDiff, reduceCtorEq, AS, decide_eq_true rfl]
  refine X_bsl (zs := [(2 : Int)]) (by rfl) (by rfl) fun s4 w6 o4 hB => ?_
  have o4 := o4.sl
  have oo := oo.up hB
  have B := B.trans (hB.mono B.size)
  clear hB
  simp (maxSteps := 1000000) (disch := omega) only [WS, List.getElem_cons_zero, List.getElem_cons_succ, Option.isNone_some, Option.isNone_none, List.getD_cons_zero, List.getD_cons_succ, I.at, atL, atO, atP, evp, evs, retV, ↓reduceIte, Nat.reduceEqDiff, reduceCtorEq, AS]
  refine X_call0 ((culletlaw19_sameInts_spec w6 so s4 _ _ oo o4 (by simp) (by simp)).mono ?_)
  rintro _ w7 ⟨rfl, hk⟩
  have hB := hk.1
  clear hk
  have B := B.trans (hB.mono B.size)
  clear hB
  have hl : ([2].map fun j => P.getD j 0) = [(2 : Int)] := by rw [List.map_cons, List.map_nil, h2]
  simp (maxSteps := 1000000) (disch := omega) only [WS, List.getElem_cons_zero, List.getElem_cons_succ, Option.isNone_some, Option.isNone_none, List.getD_cons_zero, List.getD_cons_succ, I.at, atL, atO, atP, evp, evs, retV, ↓reduceIte, Nat.reduceEqDiff, reduceCtorEq, AS, hl, decide_eq_true rfl]
  exact B
end Go.Proofs.Ytbaljbadlfopgaa.Fw

set_option linter.unusedVariables false
set_option linter.unusedSimpArgs false
set_option maxRecDepth 100000
set_option maxHeartbeats 1000000
namespace Go.Proofs.Ytbaljbadlfopgaa.Fw
open Go Go.Fw Go.Proofs
attribute [local irreducible] stepI
def c_mend_work : C := .seq (.ops [⟨0, (some 8), none, .mov (.c (.slice none 0 0)), []⟩, ⟨1, (some 9), none, .mov (.c (.slice none 0 0)), []⟩, ⟨2, (some 10), none, .mov (.c (.slice none 0 0)), []⟩, ⟨3, (some 11), none, .mov (.c (.int .i64 0)), []⟩]) (.seq (.seq (.ops [⟨0, (some 37), none, .mov (.t 0), []⟩, ⟨1, (some 38), none, .bin .neq (.t 37) (.c (.int .i64 0)), []⟩, ⟨2, (some 39), none, .mov (.t 38), []⟩, ⟨3, (some 40), (some (39, true)), .mov (.t 0), []⟩, ⟨4, (some 41), (some (39, true)), .bin .neq (.t 40) (.c (.int .i64 1)), []⟩, ⟨5, (some 42), none, .pick (.t 39) (.t 41) (.c (.bool false)), []⟩]) (.ite (.t 42) (.seq (.ops [⟨0, (some 8), none, .mov (.c (.slice none 0 0)), []⟩, ⟨1, (some 9), none, .mov (.c (.slice none 0 0)), []⟩, ⟨2, (some 10), none, .mov (.c (.slice none 0 0)), []⟩, ⟨3, (some 11), none, .mov (.c (.int .i64 2)), []⟩]) .ret) .skip)) (.seq (.ops [⟨0, (some 44), none, .mov (.t 0), []⟩, ⟨1, (some 45), none, .mov (.t 1), []⟩, ⟨2, (some 46), none, .mov (.t 2), []⟩, ⟨3, (some 47), none, .mov (.t 3), []⟩, ⟨4, (some 48), none, .call (.c (.func (.func 92) #[] #[])) [.t 44, .t 45, .t 46, .t 47], []⟩, ⟨5, (some 43), none, .mov (.t 48), []⟩, ⟨6, (some 49), none, .ext (.t 43) 0, []⟩, ⟨7, (some 50), none, .ext (.t 43) 1, []⟩, ⟨8, (some 51), none, .ext (.t 43) 2, []⟩, ⟨9, (some 12), none, .mov (.t 49), []⟩, ⟨10, (some 9), none, .mov (.t 50), []⟩, ⟨11, (some 11), none, .mov (.t 51), []⟩]) (.seq (.seq (.ops [⟨0, (some 52), none, .mov (.t 11), []⟩, ⟨1, (some 53), none, .bin .neq (.t 52) (.c (.int .i64 0)), []⟩]) (.ite (.t 53) (.seq (.ops [⟨0, (some 54), none, .mov (.t 11), []⟩, ⟨1, (some 8), none, .mov (.c (.slice none 0 0)), []⟩, ⟨2, (some 9), none, .mov (.c (.slice none 0 0)), []⟩, ⟨3, (some 10), none, .mov (.c (.slice none 0 0)), []⟩, ⟨4, (some 11), none, .mov (.t 54), []⟩]) .ret) .skip)) (.seq (.ops [⟨0, (some 13), none, .mov (.c (.slice none 0 0)), []⟩]) (.seq (.ops [⟨0, (some 14), none, .mov (.c (.slice none 0 0)), []⟩]) (.seq (.seq (.ops [⟨0, (some 55), none, .mov (.t 3), []⟩, ⟨1, (some 56), none, .len (.t 55), []⟩, ⟨2, (some 57), none, .mov (.c (.int .i64 0)), []⟩]) (.block 0 (.loop (.seq (.ops [⟨0, (some 58), none, .bin .lss (.t 57) (.t 56), []⟩]) (.seq (.ite (.t 58) .skip (.exit 0)) (.seq (.block 1 (.seq (.ops [⟨0, (some 59), none, .mov (.t 57), []⟩, ⟨1, (some 60), none, .ixs 1 (.t 55) (.t 57), []⟩, ⟨2, (some 61), none, .ld (.t 60), []⟩, ⟨3, (some 15), none, .mov (.t 59), []⟩, ⟨4, (some 16), none, .mov (.t 61), []⟩]) (.seq (.ops [⟨0, (some 62), none, .mov (.t 16), []⟩, ⟨1, (some 63), none, .len (.t 62), []⟩, ⟨2, (some 64), none, .bin .gtr (.t 63) (.c (.int .i64 0)), []⟩]) (.ite (.t 64) (.seq (.ops [⟨0, (some 65), none, .mov (.t 13), []⟩, ⟨1, (some 66), none, .mov (.t 15), []⟩, ⟨2, (some 67), none, .bsl 3 1 [.int .i64 0] [(0, (1, .t 66))], []⟩, ⟨3, (some 68), none, .app 3 8 [.int .i64 0] (.t 65) (.t 67), []⟩, ⟨4, (some 13), none, .mov (.t 68), []⟩]) (.ops [⟨0, (some 69), none, .mov (.t 14), []⟩, ⟨1, (some 70), none, .mov (.t 15), []⟩, ⟨2, (some 71), none, .cnv .u8 (.t 70), []⟩, ⟨3, (some 72), none, .bsl 5 1 [.int .u8 0] [(0, (1, .t 71))], []⟩, ⟨4, (some 73), none, .app 5 1 [.int .u8 0] (.t 69) (.t 72), []⟩, ⟨5, (some 14), none, .mov (.t 73), []⟩])) .skip)))) (.ops [⟨0, (some 74), none, .bin .add (.t 57) (.c (.int .i64 1)), []⟩, ⟨1, (some 57), none, .mov (.t 74), []⟩]))))))) (.seq (.ops [⟨0, (some 75), none, .mov (.t 0), []⟩, ⟨1, (some 76), none, .mov (.t 1), []⟩, ⟨2, (some 77), none, .mov (.t 1), []⟩, ⟨3, (some 78), none, .mov (.t 2), []⟩, ⟨4, (some 79), none, .bin .add (.t 77) (.t 78), []⟩, ⟨5, (some 80), none, .call (.c (.func (.func 93) #[] #[])) [.t 75, .t 76, .t 79], []⟩, ⟨6, (some 17), none, .alloc 25 [.slice none 0 0], []⟩, ⟨7, none, none, .st (.t 17) (.t 80), []⟩]) (.seq (.ops [⟨0, (some 81), none, .mov (.t 1), []⟩, ⟨1, (some 82), none, .mov (.t 14), []⟩, ⟨2, (some 83), none, .call (.c (.func (.func 57) #[] #[])) [.t 81, .t 82], []⟩, ⟨3, (some 18), none, .alloc 108 [.pointer none], []⟩, ⟨4, none, none, .st (.t 18) (.t 83), []⟩]) (.seq (.ops [⟨0, (some 84), none, .mov (.t 13), []⟩, ⟨1, (some 85), none, .len (.t 84), []⟩, ⟨2, (some 86), none, .mks 4 1 [.bool false] (.t 85) (.t 85), []⟩, ⟨3, (some 19), none, .mov (.t 86), []⟩]) (.seq (.ops [⟨0, (some 87), none, .mov (.t 12), []⟩, ⟨1, (some 88), none, .mks 118 48 [.slice none 0 0, .slice none 0 0] (.t 87) (.t 87), []⟩, ⟨2, (some 8), none, .mov (.t 88), []⟩]) (.seq (.seq (.ops [⟨0, (some 89), none, .mov (.t 8), []⟩, ⟨1, (some 90), none, .len (.t 89), []⟩, ⟨2, (some 91), none, .mov (.c (.int .i64 0)), []⟩]) (.block 2 (.loop (.seq (.ops [⟨0, (some 92), none, .bin .lss (.t 91) (.t 90), []⟩]) (.seq (.ite (.t 92) .skip (.exit 2)) (.seq (.block 3 (.seq (.ops [⟨0, (some 93), none, .mov (.t 91), []⟩, ⟨1, (some 20), none, .mov (.t 93), []⟩]) (.seq (.ops [⟨0, (some 94), none, .mov (.t 13), []⟩, ⟨1, (some 95), none, .len (.t 94), []⟩, ⟨2, (some 96), none, .mks 5 1 [.int .u8 0] (.t 95) (.t 95), []⟩, ⟨3, (some 21), none, .mov (.t 96), []⟩]) (.seq (.seq (.ops [⟨0, (some 97), none, .mov (.t 13), []⟩, ⟨1, (some 98), none, .len (.t 97), []⟩, ⟨2, (some 99), none, .mov (.c (.int .i64 0)), []⟩]) (.block 4 (.loop (.seq (.ops [⟨0, (some 100), none, .bin .lss (.t 99) (.t 98), []⟩]) (.seq (.ite (.t 100) .skip (.exit 4)) (.seq (.block 5 (.seq (.ops [⟨0, (some 101), none, .mov (.t 99), []⟩, ⟨1, (some 102), none, .ixs 1 (.t 97) (.t 99), []⟩, ⟨2, (some 103), none, .ld (.t 102), []⟩, ⟨3, (some 22), none, .mov (.t 101), []⟩, ⟨4, (some 23), none, .mov (.t 103), []⟩]) (.dops [⟨0, (some 104), none, .mov (.t 21), []⟩, ⟨1, (some 105), none, .mov (.t 22), []⟩, ⟨2, (some 106), none, .ld (.t 17), []⟩, ⟨3, (some 107), none, .mov (.t 23), []⟩, ⟨4, (some 108), none, .ixs 1 (.t 106) (.t 107), []⟩, ⟨5, (some 109), none, .ld (.t 108), []⟩, ⟨6, (some 110), none, .mov (.t 3), []⟩, ⟨7, (some 111), none, .mov (.t 23), []⟩, ⟨8, (some 112), none, .ixs 1 (.t 110) (.t 111), []⟩, ⟨9, (some 113), none, .ld (.t 112), []⟩, ⟨10, (some 114), none, .mov (.t 20), []⟩, ⟨11, (some 115), none, .ixs 1 (.t 113) (.t 114), []⟩, ⟨12, (some 116), none, .ld (.t 115), []⟩, ⟨13, (some 117), none, .call (.c (.func (.func 53) #[] #[])) [.t 109, .t 116], []⟩, ⟨14, (some 118), none, .ixs 1 (.t 104) (.t 105), []⟩, ⟨15, none, none, .st (.t 118) (.t 117), []⟩]))) (.ops [⟨0, (some 119), none, .bin .add (.t 99) (.c (.int .i64 1)), []⟩, ⟨1, (some 99), none, .mov (.t 119), []⟩]))))))) (.seq (.ops [⟨0, (some 121), none, .ld (.t 18), []⟩, ⟨1, (some 122), none, .mov (.t 21), []⟩, ⟨2, (some 123), none, .call (.c (.func (.func 58) #[] #[])) [.t 121, .t 122], []⟩, ⟨3, (some 120), none, .mov (.t 123), []⟩, ⟨4, (some 124), none, .ext (.t 120) 0, []⟩, ⟨5, (some 125), none, .ext (.t 120) 1, []⟩, ⟨6, (some 126), none, .ext (.t 120) 2, []⟩, ⟨7, (some 24), none, .alloc 25 [.slice none 0 0], []⟩, ⟨8, none, none, .st (.t 24) (.t 124), []⟩, ⟨9, (some 25), none, .mov (.t 125), []⟩, ⟨10, (some 26), none, .mov (.t 126), []⟩]) (.seq (.seq (.ops [⟨0, (some 127), none, .mov (.t 26), []⟩, ⟨1, (some 128), none, .un .not (.t 127), []⟩]) (.ite (.t 128) (.seq (.ops [⟨0, (some 8), none, .mov (.c (.slice none 0 0)), []⟩, ⟨1, (some 9), none, .mov (.c (.slice none 0 0)), []⟩, ⟨2, (some 10), none, .mov (.c (.slice none 0 0)), []⟩, ⟨3, (some 11), none, .mov (.c (.int .i64 190)), []⟩]) .ret) .skip)) (.seq (.seq (.ops [⟨0, (some 129), none, .mov (.t 25), []⟩, ⟨1, (some 130), none, .len (.t 129), []⟩, ⟨2, (some 131), none, .mov (.c (.int .i64 0)), []⟩]) (.block 6 (.loop (.seq (.ops [⟨0, (some 132), none, .bin .lss (.t 131) (.t 130), []⟩]) (.seq (.ite (.t 132) .skip (.exit 6)) (.seq (.block 7 (.seq (.ops [⟨0, (some 133), none, .ixs 1 (.t 129) (.t 131), []⟩, ⟨1, (some 134), none, .ld (.t 133), []⟩, ⟨2, (some 28), none, .mov (.t 134), []⟩]) (.ops [⟨0, (some 135), none, .mov (.t 19), []⟩, ⟨1, (some 136), none, .mov (.t 28), []⟩, ⟨2, (some 137), none, .ixs 1 (.t 135) (.t 136), []⟩, ⟨3, none, none, .st (.t 137) (.c (.bool true)), []⟩]))) (.ops [⟨0, (some 138), none, .bin .add (.t 131) (.c (.int .i64 1)), []⟩, ⟨1, (some 131), none, .mov (.t 138), []⟩]))))))) (.seq (.ops [⟨0, (some 139), none, .mkf 94 [] [.t 18, .t 24, .t 17], []⟩, ⟨1, (some 29), none, .mov (.t 139), []⟩]) (.seq (.ops [⟨0, (some 140), none, .mov (.t 8), []⟩, ⟨1, (some 141), none, .mov (.t 20), []⟩, ⟨2, (some 142), none, .ixs 2 (.t 140) (.t 141), []⟩, ⟨3, (some 30), none, .mov (.t 142), []⟩]) (.seq (.seq (.ops [⟨0, (some 143), none, .mov (.t 13), []⟩, ⟨1, (some 144), none, .len (.t 143), []⟩, ⟨2, (some 145), none, .mov (.c (.int .i64 0)), []⟩]) (.block 8 (.loop (.seq (.ops [⟨0, (some 146), none, .bin .lss (.t 145) (.t 144), []⟩]) (.seq (.ite (.t 146) .skip (.exit 8)) (.seq (.block 9 (.seq (.ops [⟨0, (some 147), none, .ixs 1 (.t 143) (.t 145), []⟩, ⟨1, (some 148), none, .ld (.t 147), []⟩, ⟨2, (some 32), none, .mov (.t 148), []⟩]) (.dops [⟨0, (some 149), none, .mov (.t 30), []⟩, ⟨1, (some 150), none, .mov (.t 30), []⟩, ⟨2, (some 151), none, .nil (.t 150), []⟩, ⟨3, (some 152), none, .fad 0 (.t 151), []⟩, ⟨4, (some 153), none, .ld (.t 152), []⟩, ⟨5, (some 154), none, .mov (.t 29), []⟩, ⟨6, (some 155), none, .mov (.t 32), []⟩, ⟨7, (some 156), none, .call (.t 154) [.t 155], [4]⟩, ⟨8, (some 157), none, .bsl 5 1 [.int .u8 0] [(0, (1, .t 156))], [4]⟩, ⟨9, (some 158), none, .app 5 1 [.int .u8 0] (.t 153) (.t 157), []⟩, ⟨10, (some 159), none, .nil (.t 149), []⟩, ⟨11, (some 160), none, .fad 0 (.t 159), []⟩, ⟨12, none, none, .st (.t 160) (.t 158), []⟩]))) (.ops [⟨0, (some 161), none, .bin .add (.t 145) (.c (.int .i64 1)), []⟩, ⟨1, (some 145), none, .mov (.t 161), []⟩]))))))) (.seq (.ops [⟨0, (some 162), none, .mov (.t 9), []⟩, ⟨1, (some 163), none, .len (.t 162), []⟩, ⟨2, (some 164), none, .mov (.c (.int .i64 0)), []⟩]) (.block 10 (.loop (.seq (.ops [⟨0, (some 165), none, .bin .lss (.t 164) (.t 163), []⟩]) (.seq (.ite (.t 165) .skip (.exit 10)) (.seq (.block 11 (.seq (.ops [⟨0, (some 166), none, .ixs 1 (.t 162) (.t 164), []⟩, ⟨1, (some 167), none, .ld (.t 166), []⟩, ⟨2, (some 34), none, .mov (.t 167), []⟩]) (.dops [⟨0, (some 168), none, .mov (.t 30), []⟩, ⟨1, (some 169), none, .mov (.t 30), []⟩, ⟨2, (some 170), none, .nil (.t 169), []⟩, ⟨3, (some 171), none, .fad 1 (.t 170), []⟩, ⟨4, (some 172), none, .ld (.t 171), []⟩, ⟨5, (some 173), none, .mov (.t 29), []⟩, ⟨6, (some 174), none, .mov (.t 34), []⟩, ⟨7, (some 175), none, .call (.t 173) [.t 174], [4]⟩, ⟨8, (some 176), none, .bsl 5 1 [.int .u8 0] [(0, (1, .t 175))], [4]⟩, ⟨9, (some 177), none, .app 5 1 [.int .u8 0] (.t 172) (.t 176), []⟩, ⟨10, (some 178), none, .nil (.t 168), []⟩, ⟨11, (some 179), none, .fad 1 (.t 178), []⟩, ⟨12, none, none, .st (.t 179) (.t 177), []⟩]))) (.ops [⟨0, (some 180), none, .bin .add (.t 164) (.c (.int .i64 1)), []⟩, ⟨1, (some 164), none, .mov (.t 180), []⟩]))))))))))))))))) (.ops [⟨0, (some 181), none, .bin .add (.t 91) (.c (.int .i64 1)), []⟩, ⟨1, (some 91), none, .mov (.t 181), []⟩]))))))) (.seq (.seq (.ops [⟨0, (some 182), none, .mov (.t 13), []⟩, ⟨1, (some 183), none, .len (.t 182), []⟩, ⟨2, (some 184), none, .mov (.c (.int .i64 0)), []⟩]) (.block 12 (.loop (.seq (.ops [⟨0, (some 185), none, .bin .lss (.t 184) (.t 183), []⟩]) (.seq (.ite (.t 185) .skip (.exit 12)) (.seq (.block 13 (.seq (.ops [⟨0, (some 186), none, .mov (.t 184), []⟩, ⟨1, (some 187), none, .ixs 1 (.t 182) (.t 184), []⟩, ⟨2, (some 188), none, .ld (.t 187), []⟩, ⟨3, (some 35), none, .mov (.t 186), []⟩, ⟨4, (some 36), none, .mov (.t 188), []⟩]) (.seq (.ops [⟨0, (some 189), none, .mov (.t 19), []⟩, ⟨1, (some 190), none, .mov (.t 35), []⟩, ⟨2, (some 191), none, .ixs 1 (.t 189) (.t 190), []⟩, ⟨3, (some 192), none, .ld (.t 191), []⟩]) (.ite (.t 192) (.ops [⟨0, (some 193), none, .mov (.t 10), []⟩, ⟨1, (some 194), none, .mov (.t 36), []⟩, ⟨2, (some 195), none, .bsl 3 1 [.int .i64 0] [(0, (1, .t 194))], []⟩, ⟨3, (some 196), none, .app 3 8 [.int .i64 0] (.t 193) (.t 195), []⟩, ⟨4, (some 10), none, .mov (.t 196), []⟩]) .skip)))) (.ops [⟨0, (some 197), none, .bin .add (.t 184) (.c (.int .i64 1)), []⟩, ⟨1, (some 184), none, .mov (.t 197), []⟩]))))))) (.seq (.ops [⟨0, (some 198), none, .mov (.t 8), []⟩, ⟨1, (some 199), none, .mov (.t 9), []⟩, ⟨2, (some 200), none, .mov (.t 10), []⟩, ⟨3, (some 8), none, .mov (.t 198), []⟩, ⟨4, (some 9), none, .mov (.t 199), []⟩, ⟨5, (some 10), none, .mov (.t 200), []⟩, ⟨6, (some 11), none, .mov (.c (.int .i64 0)), []⟩]) .ret)))))))))))))
attribute [irreducible] c_mend_work
theorem run_mend_work {args : List Value} {w : World} {K : Value → World → Prop} (hn : args.length ≤ 201) (h : WP Try.prog c_mend_work (endQ [.t 8, .t 9, .t 10, .t 11] K) (initT args) w) : CallV Try.prog 60 args w K :=
  call_of follows Try.func60 (by kernel_rfl) (by kernel_rfl) hn h
end Go.Proofs.Ytbaljbadlfopgaa.Fw
namespace Go.Proofs.Ytbaljbadlfopgaa.Fw
open Go Go.Fw
theorem mend_work_family (w : World) (f k m : Int) (s : Value) (hf : f ≠ 0) (hf1 : f ≠ 1) : CallV Try.prog 60 [.int .i64 f, .int .i64 k, .int .i64 m, s] w fun v w' => v = .tuple #[.slice none 0 0, .slice none 0 0, .slice none 0 0, .int .i64 2] ∧ w' = w := by
  refine run_mend_work (by simp) ?_
  simp only [c_mend_work, WS, List.getElem_cons_zero, List.getElem_cons_succ, Option.isNone_some, Option.isNone_none, List.getD_cons_zero, List.getD_cons_succ, I.at, atL, atO, atP, evp, evs, retV, ↓reduceIte, Nat.reduceEqDiff, reduceCtorEq]
  simp (maxSteps := 1000000) (disch := omega) only [WS, List.getElem_cons_zero, List.getElem_cons_succ, Option.isNone_some, Option.isNone_none, List.getD_cons_zero, List.getD_cons_succ, I.at, atL, atO, atP, evp, evs, retV, ↓reduceIte, Nat.reduceEqDiff, reduceCtorEq, AS]
end Go.Proofs.Ytbaljbadlfopgaa.Fw
