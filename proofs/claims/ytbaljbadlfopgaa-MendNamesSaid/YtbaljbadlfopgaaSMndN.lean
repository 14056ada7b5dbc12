import Derived.Test.YtbaljbadlfopgaaProg
import Derived.Test.YtbaljbadlfopgaaFwTN
import Derived.Test.YtbaljbadlfopgaaSMnearN
set_option linter.all false
set_option linter.unusedVariables false
set_option linter.unusedSimpArgs false
set_option maxRecDepth 100000
set_option maxHeartbeats 1000000
namespace Go.Proofs.Ytbaljbadlfopgaa.Fw
open Go Go.Fw Go.Proofs
attribute [local irreducible] stepI
def c_mend_Radius : C := .seq (.ops [⟨0, (some 4), none, .mov (.c (.int .i64 0)), []⟩, ⟨1, (some 5), none, .mov (.c (.int .i64 0)), []⟩]) (.seq (.seq (.ops [⟨0, (some 6), none, .mov (.t 0), []⟩, ⟨1, (some 7), none, .bin .lss (.t 6) (.c (.int .i64 1)), []⟩, ⟨2, (some 8), none, .mov (.t 7), []⟩, ⟨3, (some 9), (some (8, false)), .mov (.t 0), []⟩, ⟨4, (some 10), (some (8, false)), .bin .gtr (.t 9) (.c (.int .i64 256)), []⟩, ⟨5, (some 11), none, .pick (.t 8) (.c (.bool true)) (.t 10), []⟩, ⟨6, (some 12), none, .mov (.t 11), []⟩, ⟨7, (some 13), (some (12, false)), .mov (.t 1), []⟩, ⟨8, (some 14), (some (12, false)), .bin .gtr (.t 13) (.c (.int .i64 256)), []⟩, ⟨9, (some 15), none, .pick (.t 12) (.c (.bool true)) (.t 14), []⟩]) (.ite (.t 15) (.seq (.ops [⟨0, (some 4), none, .mov (.c (.int .i64 0)), []⟩, ⟨1, (some 5), none, .mov (.c (.int .i64 4)), []⟩]) .ret) .skip)) (.seq (.seq (.ops [⟨0, (some 16), none, .mov (.t 1), []⟩, ⟨1, (some 17), none, .mov (.t 0), []⟩, ⟨2, (some 18), none, .bin .lss (.t 16) (.t 17), []⟩]) (.ite (.t 18) (.seq (.ops [⟨0, (some 4), none, .mov (.c (.int .i64 0)), []⟩, ⟨1, (some 5), none, .mov (.c (.int .i64 9)), []⟩]) .ret) .skip)) (.seq (.ops [⟨0, (some 19), none, .mov (.t 1), []⟩, ⟨1, (some 20), none, .mov (.t 0), []⟩, ⟨2, (some 21), none, .bin .sub (.t 19) (.t 20), []⟩, ⟨3, (some 22), none, .bin .quo (.t 21) (.c (.int .i64 2)), []⟩, ⟨4, (some 4), none, .mov (.t 22), []⟩, ⟨5, (some 5), none, .mov (.c (.int .i64 0)), []⟩]) .ret)))
attribute [irreducible] c_mend_Radius
theorem run_mend_Radius {args : List Value} {w : World} {K : Value → World → Prop} (hn : args.length ≤ 23) (h : WP Try.prog c_mend_Radius (endQ [.t 4, .t 5] K) (initT args) w) : CallV Try.prog 18 args w K :=
  call_of follows Try.func18 (by kernel_rfl) (by kernel_rfl) hn h
def c_mend_newDecoder : C := .seq (.ops [⟨0, (some 4), none, .mov (.c (.pointer none)), []⟩]) (.seq (.ops [⟨0, (some 6), none, .call (.c (.func (.func 55) #[] #[])) [], []⟩, ⟨1, (some 7), none, .mov (.t 0), []⟩, ⟨2, (some 8), none, .mov (.t 1), []⟩, ⟨3, (some 9), none, .bld [.pointer none, .int .i64 0, .slice none 0 0, .slice none 0 0] [(0, (1, .t 6)), (1, (1, .t 7)), (2, (1, .t 8))], []⟩, ⟨4, (some 10), none, .box 113 (.t 9), []⟩, ⟨5, (some 5), none, .mov (.t 10), []⟩]) (.seq (.ops [⟨0, (some 12), none, .mov (.t 5), []⟩, ⟨1, (some 13), none, .mov (.t 5), []⟩, ⟨2, (some 14), none, .nil (.t 13), []⟩, ⟨3, (some 15), none, .fad 0 (.t 14), []⟩, ⟨4, (some 16), none, .ld (.t 15), []⟩, ⟨5, (some 17), none, .mov (.t 1), []⟩, ⟨6, (some 18), none, .call (.c (.func (.func 89) #[] #[])) [.t 16, .t 17], []⟩, ⟨7, (some 11), none, .mov (.t 18), []⟩, ⟨8, (some 19), none, .ext (.t 11) 0, []⟩, ⟨9, (some 20), none, .ext (.t 11) 1, []⟩, ⟨10, (some 21), none, .nil (.t 12), []⟩, ⟨11, (some 22), none, .fad 3 (.t 21), []⟩, ⟨12, none, none, .st (.t 22) (.t 19), []⟩]) (.seq (.ops [⟨0, (some 23), none, .mov (.t 5), []⟩, ⟨1, (some 4), none, .mov (.t 23), []⟩]) .ret)))
attribute [irreducible] c_mend_newDecoder
theorem run_mend_newDecoder {args : List Value} {w : World} {K : Value → World → Prop} (hn : args.length ≤ 24) (h : WP Try.prog c_mend_newDecoder (endQ [.t 4] K) (initT args) w) : CallV Try.prog 57 args w K :=
  call_of follows Try.func57 (by kernel_rfl) (by kernel_rfl) hn h
end Go.Proofs.Ytbaljbadlfopgaa.Fw
namespace Go.Proofs.Ytbaljbadlfopgaa.Fw
open Go Go.Fw
theorem mend_Radius_spec (w : World) (k n : Int) (hk : -9223372036854775808 ≤ k ∧ k ≤ 9223372036854775807) (hn : -9223372036854775808 ≤ n ∧ n ≤ 9223372036854775807) : CallV Try.prog 18 [.int .i64 k, .int .i64 n] w fun v w' => w' = w ∧
    (((k < 1 ∨ k > 256 ∨ n > 256) ∧ v = .tuple #[.int .i64 0, .int .i64 4]) ∨ (¬ (k < 1 ∨ k > 256 ∨ n > 256) ∧ n < k ∧ v = .tuple #[.int .i64 0, .int .i64 9]) ∨ (¬ (k < 1 ∨ k > 256 ∨ n > 256) ∧ ¬ n < k ∧ v = .tuple #[.int .i64 ((n - k) / 2), .int .i64 0])) := by
  refine run_mend_Radius (by simp) ?_
  simp only [c_mend_Radius, WS, List.getElem_cons_zero, List.getElem_cons_succ, Option.isNone_some, Option.isNone_none, List.getD_cons_zero, List.getD_cons_succ, I.at, atL, atO, atP, evp, evs, retV, ↓reduceIte, Nat.reduceEqDiff, reduceCtorEq]
  by_cases h1 : k < 1
  · simp (maxSteps := 1000000) (disch := omega) only [WS, List.getElem_cons_zero, List.getElem_cons_succ, Option.isNone_some, Option.isNone_none, List.getD_cons_zero, List.getD_cons_succ, I.at, atL, atO, atP, evp, evs, retV, ↓reduceIte, Nat.reduceEqDiff, reduceCtorEq, AS]
    exact Or.inl (Or.inl h1)
  by_cases h2 : k > 256
  · simp (maxSteps := 1000000) (disch := omega) only [WS, List.getElem_cons_zero, List.getElem_cons_succ, Option.isNone_some, Option.isNone_none, List.getD_cons_zero, List.getD_cons_succ, I.at, atL, atO, atP, evp, evs, retV, ↓reduceIte, Nat.reduceEqDiff, reduceCtorEq, AS]
    exact Or.inl (Or.inr (Or.inl h2))
  by_cases h3 : n > 256
  · simp (maxSteps := 1000000) (disch := omega) only [WS, List.getElem_cons_zero, List.getElem_cons_succ, Option.isNone_some, Option.isNone_none, List.getD_cons_zero, List.getD_cons_succ, I.at, atL, atO, atP, evp, evs, retV, ↓reduceIte, Nat.reduceEqDiff, reduceCtorEq, AS]
    exact Or.inl (Or.inr (Or.inr h3))
  have hno : ¬ (k < 1 ∨ k > 256 ∨ n > 256) := by omega
  by_cases h4 : n < k
  · simp (maxSteps := 1000000) (disch := omega) only [WS, List.getElem_cons_zero, List.getElem_cons_succ, Option.isNone_some, Option.isNone_none, List.getD_cons_zero, List.getD_cons_succ, I.at, atL, atO, atP, evp, evs, retV, ↓reduceIte, Nat.reduceEqDiff, reduceCtorEq, AS]
    exact Or.inr (Or.inl ⟨hno, h4⟩)
  have hn2 : ((2 : Int) ≠ 0) = True := eq_true (by decide)
  have e1 : IntKind.i64.wrap (n - k) = n - k := wrap_id (by omega) (by omega)
  have e2 : (n - k).tdiv 2 = (n - k) / 2 := Int.tdiv_eq_ediv_of_nonneg (by omega)
  have e3 : IntKind.i64.wrap ((n - k) / 2) = (n - k) / 2 := wrap_id (by omega) (by omega)
  simp (maxSteps := 1000000) (disch := omega) only [WS, List.getElem_cons_zero, List.getElem_cons_succ, Option.isNone_some, Option.isNone_none, List.getD_cons_zero, List.getD_cons_succ, I.at, atL, atO, atP, evp, evs, retV, ↓reduceIte, Nat.reduceEqDiff, reduceCtorEq, AS, X_quo, hn2, e1, e2, e3]
  exact Or.inr (Or.inr ⟨hno, h4⟩)
theorem mend_newDecoder_spec (w : World) (k : Nat) (s : Value) (xs : List (El 8)) (hs : Sl w s xs) (hn : xs.length ≤ 256) : CallV Try.prog 57 [.int .i64 (k : Int), s] w fun v w' => Deco w' v k xs ∧ RowKit.Below w.heap.size w w' := by
  refine run_mend_newDecoder (by simp) ?_
  simp only [c_mend_newDecoder, WS, List.getElem_cons_zero, List.getElem_cons_succ, Option.isNone_some, Option.isNone_none, List.getD_cons_zero, List.getD_cons_succ, I.at, atL, atO, atP, evp, evs, retV, ↓reduceIte, Nat.reduceEqDiff, reduceCtorEq]
  refine X_call0 ((polys_Over8_spec w).mono ?_)
  rintro r w1 ⟨hr, hB, -⟩
  have B := hB
  have hs := hs.up hB
  clear hB
  have hf : fillL [.pointer none, .int .i64 0, .slice none 0 0, .slice none 0 0] [(0, 1, r), (1, 1, .int .i64 (k : Int)), (2, 1, s)] = some [r, .int .i64 (k : Int), s, .slice none 0 0] := by
    obtain ⟨_, _, _, rfl, -⟩ := hr
    obtain ⟨_, _, rfl, -, -⟩ := hs.sh
    rfl
  simp (maxSteps := 1000000) (disch := omega) only [WS, List.getElem_cons_zero, List.getElem_cons_succ, Option.isNone_some, Option.isNone_none, List.getD_cons_zero, List.getD_cons_succ, I.at, atL, atO, atP, evp, evs, retV, ↓reduceIte, Nat.reduceEqDiff, reduceCtorEq, AS, X_bld, hf]
  refine X_box fun bo w2 hro hbo hB => ?_
  have hro : Row w2 bo [r, .int .i64 (k : Int), s, .slice none 0 0] := hro
  have hlt := row_lt hro
  simp (maxSteps := 1000000) (disch := omega) only [WS, List.getElem_cons_zero, List.getElem_cons_succ, Option.isNone_some, Option.isNone_none, List.getD_cons_zero, List.getD_cons_succ, I.at, atL, atO, atP, evp, evs, retV, ↓reduceIte, Nat.reduceEqDiff, reduceCtorEq, AS, hro.Xld (show 0 < _ by simp)]
  refine X_call0 ((polys_Ring_b_Vanishing_spec w2 r s xs (hr.up hB) (hs.up hB) (by omega)).mono ?_)
  rintro _ w3 ⟨hB3, ⟨-, sa, A, rfl, oA, hAl, hA⟩ | ⟨h9, -⟩⟩
  rotate_left
  · exact absurd (by omega) h9
  have hro := hro.up hB3
  have C := hB.trans (hB3.mono hB.size)
  simp (maxSteps := 1000000) (disch := omega) only [WS, List.getElem_cons_zero, List.getElem_cons_succ, Option.isNone_some, Option.isNone_none, List.getD_cons_zero, List.getD_cons_succ, I.at, atL, atO, atP, evp, evs, retV, ↓reduceIte, Nat.reduceEqDiff, reduceCtorEq, AS]
  have hsc : scal sa = true := by
    obtain ⟨_, _, rfl, -, -⟩ := oA.sl.sh
    rfl
  refine Row.Xst (o := 3) hro (by simp) hsc fun w4 hr4 hg => ?_
  have C := Below.row C hbo hg
  have oA := oA.grown hg fun e => by
    have := (oA.blk bo e).1
    omega
  simp (maxSteps := 1000000) (disch := omega) only [WS, List.getElem_cons_zero, List.getElem_cons_succ, Option.isNone_some, Option.isNone_none, List.getD_cons_zero, List.getD_cons_succ, I.at, atL, atO, atP, evp, evs, retV, ↓reduceIte, Nat.reduceEqDiff, reduceCtorEq, AS]
  exact ⟨⟨bo, r, s, sa, A, rfl, hr4, hr.up C, hs.up C, oA.sl, hA, hAl⟩, B.trans (C.mono B.size)⟩
end Go.Proofs.Ytbaljbadlfopgaa.Fw
