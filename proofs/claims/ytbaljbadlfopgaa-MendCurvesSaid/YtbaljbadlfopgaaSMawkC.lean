import Derived.Test.YtbaljbadlfopgaaProg
import Derived.Test.YtbaljbadlfopgaaFwTC
import Derived.Test.YtbaljbadlfopgaaSMcolC
import Derived.Test.YtbaljbadlfopgaaSMsame9C
set_option linter.all false
set_option linter.unusedVariables false
set_option linter.unusedSimpArgs false
set_option maxRecDepth 100000
set_option maxHeartbeats 1000000
namespace Go.Proofs.Ytbaljbadlfopgaa.Fw
open Go Go.Fw Go.Proofs
attribute [local irreducible] stepI
def c_culletlaw19_awake : C := .seq (.ops [⟨0, (some 0), none, .mov (.c (.bool false)), []⟩]) (.seq (.ops [⟨0, (some 5), none, .bsl 3 4 [.int .i64 0] [(0, (1, .c (.int .i64 0))), (1, (1, .c (.int .i64 1))), (2, (1, .c (.int .i64 2))), (3, (1, .c (.int .i64 3)))], []⟩, ⟨1, (some 6), none, .bsl 5 4 [.int .u8 0] [(0, (1, .c (.int .u8 0))), (1, (1, .c (.int .u8 1))), (2, (1, .c (.int .u8 7))), (3, (1, .c (.int .u8 3)))], []⟩, ⟨2, (some 7), none, .call (.c (.func (.func 19) #[] #[])) [.c (.int .i64 2), .t 5, .t 6], []⟩, ⟨3, (some 4), none, .mov (.t 7), []⟩, ⟨4, (some 8), none, .ext (.t 4) 0, []⟩, ⟨5, (some 9), none, .ext (.t 4) 1, []⟩, ⟨6, (some 10), none, .ext (.t 4) 2, []⟩, ⟨7, (some 1), none, .mov (.t 8), []⟩, ⟨8, (some 2), none, .mov (.t 9), []⟩, ⟨9, (some 3), none, .mov (.t 10), []⟩]) (.seq (.ops [⟨0, (some 11), none, .mov (.t 3), []⟩, ⟨1, (some 12), none, .bin .eql (.t 11) (.c (.int .i64 0)), []⟩, ⟨2, (some 13), none, .mov (.t 12), []⟩, ⟨3, (some 14), (some (13, true)), .mov (.t 1), []⟩, ⟨4, (some 15), (some (13, true)), .bsl 5 4 [.int .u8 0] [(0, (1, .c (.int .u8 0))), (1, (1, .c (.int .u8 1))), (2, (1, .c (.int .u8 2))), (3, (1, .c (.int .u8 3)))], []⟩, ⟨5, (some 16), (some (13, true)), .call (.c (.func (.func 17) #[] #[])) [.t 14, .t 15], []⟩, ⟨6, (some 17), none, .pick (.t 13) (.t 16) (.c (.bool false)), []⟩, ⟨7, (some 18), none, .mov (.t 17), []⟩, ⟨8, (some 19), (some (18, true)), .mov (.t 2), []⟩, ⟨9, (some 20), (some (18, true)), .bsl 3 1 [.int .i64 0] [(0, (1, .c (.int .i64 2)))], []⟩, ⟨10, (some 21), (some (18, true)), .call (.c (.func (.func 20) #[] #[])) [.t 19, .t 20], []⟩, ⟨11, (some 22), none, .pick (.t 18) (.t 21) (.c (.bool false)), []⟩, ⟨12, (some 0), none, .mov (.t 22), []⟩]) .ret))
attribute [irreducible] c_culletlaw19_awake
theorem run_culletlaw19_awake {args : List Value} {w : World} {K : Value → World → Prop} (hn : args.length ≤ 23) (h : WP Try.prog c_culletlaw19_awake (endQ [.t 0] K) (initT args) w) : CallV Try.prog 13 args w K :=
  call_of follows Try.func13 (by kernel_rfl) (by kernel_rfl) hn h
end Go.Proofs.Ytbaljbadlfopgaa.Fw
namespace Go.Proofs.Ytbaljbadlfopgaa.Fw
open Go Go.Fw
theorem offP_uniq {P : List Int} {Y : List (El 8)} {k : Nat} {g g' : List (El 8)} (h : asc P P.length) (hk : k ≤ P.length) (tg : tr g = g) (tg' : tr g' = g') (hg : g.length ≤ k) (hg' : g'.length ≤ k)
    (ho : (offP g P Y).length ≤ (P.length - k) / 2) (ho' : (offP g' P Y).length ≤ (P.length - k) / 2) : g = g' := near_uniq (X := nth (xsP P)) (Y := nth Y) (N := P.length) (xsP_dist h) hk tg tg' hg hg' (by unfold offP at ho ho'; omega)
/-- What is near is what Column answers. -/
theorem mend_Column_near (w : World) (k : Nat) (s1 s2 : Value) (P : List Int) (Y g : List (El 8)) (h1 : Sl w s1 P) (h2 : Sl w s2 Y) (hk1 : 1 ≤ k) (hk : k ≤ P.length) (hP : P.length ≤ 256) (hY : Y.length = P.length) (ha : asc P P.length) (tg : tr g = g) (hg : g.length ≤ k) (ho : (offP g P Y).length ≤ (P.length - k) / 2) :
    CallV Try.prog 19 [.int .i64 (k : Int), s1, s2] w fun v w' => RowKit.Below w.heap.size w w' ∧ ∃ (sf so : Value), v = .tuple #[sf, so, .int .i64 0] ∧ Ow w.heap.size w' sf ((xsP P).map (evl g)) ∧ Ow w.heap.size w' so ((offP g P Y).map fun j => P.getD j 0) := by
  refine (mend_Column_spec w k s1 s2 P Y h1 h2 (by omega) (by omega)).mono ?_
  rintro v w' ⟨B, ⟨g1, -⟩ | ⟨-, g2, -⟩ | ⟨-, -, g3, -⟩ | ⟨-, -, -, g4, -⟩ | ⟨-, -, -, -, ⟨sf, so, g', rfl, of, oo, tg', hg', ho'⟩ | ⟨-, hfar⟩⟩⟩
  · omega
  · exact absurd ha g2
  · exact absurd hY g3
  · omega
  · rw [Int.toNat_natCast] at hg' ho'
    have he := offP_uniq ha hk tg' tg hg' hg ho' ho
    subst he
    exact ⟨B, sf, so, rfl, of, oo⟩
  · have := hfar g tg (by rw [Int.toNat_natCast]; exact hg)
    rw [Int.toNat_natCast] at this
    omega
theorem asc_of {P : List Int} (h : ∀ p ∈ P, 0 ≤ p ∧ p ≤ 255) (hp : P.Pairwise (· < ·)) : asc P P.length := fun i hi _ => by
  obtain ⟨a, b⟩ := h _ (List.getElem_mem hi)
  exact ⟨a, b, fun j hj hji => List.pairwise_iff_getElem.1 hp j i hj hi hji⟩
theorem evl_X (x : El 8) : evl [0, 1] x = x := by
  show (0 : El 8) + x * (1 + x * 0) = x
  rw [El.mul_zero, El.add_zero, El.mul_one, El.zero_add]
theorem awake19 : ∃ (P : List Int) (Y F : List (El 8)), P = [0, 1, 2, 3] ∧ Y = [⟨0⟩, ⟨1⟩, ⟨7⟩, ⟨3⟩] ∧ F = [⟨0⟩, ⟨1⟩, ⟨2⟩, ⟨3⟩] ∧ asc P P.length ∧ P.length = 4 ∧ Y.length = 4 ∧ F.length = 4 ∧ (xsP P).map (evl [0, 1]) = F ∧ offP [0, 1] P Y = [2] ∧ P.getD 2 0 = 2 := by
  refine ⟨_, _, _, rfl, rfl, rfl, asc_of (by decide) (by decide), rfl, rfl, rfl, ?_, ?_, rfl⟩
  · simp only [funext evl_X, List.map_id']
    decide
  · unfold offP offs
    simp only [evl_X]
    decide
theorem culletlaw19_awake_spec (w : World) : CallV Try.prog 13 [] w fun v w' => v = .bool true ∧ RowKit.Below w.heap.size w w' := by
  obtain ⟨P, Y, F, eP, eY, eF, ha, lP, lY, lF, hv, ho, h2⟩ := awake19
  refine run_culletlaw19_awake (by simp) ?_
  simp only [c_culletlaw19_awake, WS, List.getElem_cons_zero, List.getElem_cons_succ, Option.isNone_some, Option.isNone_none, List.getD_cons_zero, List.getD_cons_succ, I.at, atL, atO, atP, evp, evs, retV, ↓reduceIte, Nat.reduceEqDiff, reduceCtorEq]
  refine X_bsl (zs := P) (by rw [eP]; rfl) (by rw [eP]; rfl) fun s1 w1 o1 hB => ?_
  have B := hB
  clear hB
  have o1 := o1.sl
  simp (maxSteps := 1000000) (disch := omega) only [WS, List.getElem_cons_zero, List.getElem_cons_succ, Option.isNone_some, Option.isNone_none, List.getD_cons_zero, List.getD_cons_succ, I.at, atL, atO, atP, evp, evs, retV, ↓reduceIte, Nat.reduceEqDiff, reduceCtorEq, AS]
  refine X_bsl (zs := Y) (by rw [eY]; rfl) (by rw [eY]; rfl) fun s2 w2 o2 hB => ?_
  have o2 := o2.sl
  have o1 := o1.up hB
  have B := B.trans (hB.mono B.size)
  clear hB
  clear eP eY
  simp (maxSteps := 1000000) (disch := omega) only [WS, List.getElem_cons_zero, List.getElem_cons_succ, Option.isNone_some, Option.isNone_none, List.getD_cons_zero, List.getD_cons_succ, I.at, atL, atO, atP, evp, evs, retV, ↓reduceIte, Nat.reduceEqDiff, reduceCtorEq, AS]
  refine X_call0 ((mend_Column_near w2 2 s1 s2 P Y [0, 1] o1 o2 (by decide) (by omega) (by omega) (by omega) ha (by decide) (by decide) (by rw [ho, lP]; decide)).mono ?_)
  rintro _ w3 ⟨hB, sf, so, rfl, of, oo⟩
  rw [hv] at of
  rw [ho] at oo
  have of := of.sl
  have oo := oo.sl
  have B := B.trans (hB.mono B.size)
  clear hB
  simp (maxSteps := 1000000) (disch := omega) only [WS, List.getElem_cons_zero, List.getElem_cons_succ, Option.isNone_some, Option.isNone_none, List.getD_cons_zero, List.getD_cons_succ, I.at, atL, atO, atP, evp, evs, retV, ↓reduceIte, Nat.reduceEqDiff, reduceCtorEq, AS, show decide ((0 : Int) = 0) = true from rfl]
  refine X_bsl (zs := F) (by rw [eF]; rfl) (by rw [eF]; rfl) fun s3 w4 o3 hB => ?_
  have o3 := o3.sl
  have of := of.up hB
  have oo := oo.up hB
  have B := B.trans (hB.mono B.size)
  clear hB
  simp (maxSteps := 1000000) (disch := omega) only [WS, List.getElem_cons_zero, List.getElem_cons_succ, Option.isNone_some, Option.isNone_none, List.getD_cons_zero, List.getD_cons_succ, I.at, atL, atO, atP, evp, evs, retV, ↓reduceIte, Nat.reduceEqDiff, reduceCtorEq, AS]
  refine X_call0 ((culletlaw19_sameBytes_spec w4 sf s3 F F of o3 (by omega) (by omega)).mono ?_)
  rintro _ w5 ⟨rfl, hk⟩
  have hB := hk.1
  clear hk
  have oo := oo.up hB
  have B := B.trans (hB.mono B.size)
  clear hB
  simp (maxSteps := 1000000) (disch := omega) only [WS, List.getElem_cons_zero, List.getElem_cons_succ, Option.isNone_some, Option.isNone_none, List.getD_cons_zero, List.getD_cons_succ, I.at, atL, atO, atP, evp, evs, retV, ↓reduceIte, Nat.reduceEqDiff, reduceCtorEq, AS, decide_eq_true rfl]
  refine X_bsl (zs := [(2 : Int)]) (by rfl) (by rfl) fun s4 w6 o4 hB => ?_
  have o4 := o4.sl
  have oo := oo.up hB
  have B := B.trans (hB.mono B.size)
  clear hB
  simp (maxSteps := 1000000) (disch := omega) only [WS, List.getElem_cons_zero, List.getElem_cons_succ, Option.isNone_some, Option.isNone_none, List.getD_cons_zero, List.getD_cons_succ, I.at, atL, atO, atP, evp, evs, retV, ↓reduceIte, Nat.reduceEqDiff, reduceCtorEq, AS]
  refine X_call0 ((culletlaw19_sameInts_spec w6 so s4 _ _ oo o4 (by simp) (by simp)).mono ?_)
  rintro _ w7 ⟨rfl, hk⟩
  have hB := hk.1
  clear hk
  have B := B.trans (hB.mono B.size)
  clear hB
  have hl : ([2].map fun j => P.getD j 0) = [(2 : Int)] := by rw [List.map_cons, List.map_nil, h2]
  simp (maxSteps := 1000000) (disch := omega) only [WS, List.getElem_cons_zero, List.getElem_cons_succ, Option.isNone_some, Option.isNone_none, List.getD_cons_zero, List.getD_cons_succ, I.at, atL, atO, atP, evp, evs, retV, ↓reduceIte, Nat.reduceEqDiff, reduceCtorEq, AS, hl, decide_eq_true rfl]
  exact B
end Go.Proofs.Ytbaljbadlfopgaa.Fw
