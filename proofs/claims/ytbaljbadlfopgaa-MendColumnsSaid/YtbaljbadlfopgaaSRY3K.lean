import Derived.Test.YtbaljbadlfopgaaProg
import Derived.Test.YtbaljbadlfopgaaFwTK
import Derived.Test.YtbaljbadlfopgaaSRY2K
set_option linter.all false
set_option linter.unusedVariables false
set_option linter.unusedSimpArgs false
set_option maxRecDepth 100000
set_option maxHeartbeats 1000000
namespace Go.Proofs.Ytbaljbadlfopgaa.Fw
open Go Go.Fw Go.Proofs
attribute [local irreducible] stepI
def c_culletref19_Syndromes : C := .seq (.ops [⟨0, (some 6), none, .mov (.c (.slice none 0 0)), []⟩, ⟨1, (some 7), none, .mov (.c (.int .i64 0)), []⟩]) (.seq (.ops [⟨0, (some 15), none, .mov (.t 0), []⟩, ⟨1, (some 16), none, .mov (.t 1), []⟩, ⟨2, (some 17), none, .mov (.t 2), []⟩, ⟨3, (some 18), none, .call (.c (.func (.func 79) #[] #[])) [.t 15, .t 16, .t 17], []⟩, ⟨4, (some 8), none, .mov (.t 18), []⟩]) (.seq (.seq (.ops [⟨0, (some 19), none, .mov (.t 8), []⟩, ⟨1, (some 20), none, .bin .neq (.t 19) (.c (.int .i64 0)), []⟩]) (.ite (.t 20) (.seq (.ops [⟨0, (some 21), none, .mov (.t 8), []⟩, ⟨1, (some 6), none, .mov (.c (.slice none 0 0)), []⟩, ⟨2, (some 7), none, .mov (.t 21), []⟩]) .ret) .skip)) (.seq (.ops [⟨0, (some 23), none, .mov (.t 1), []⟩, ⟨1, (some 24), none, .mov (.t 2), []⟩, ⟨2, (some 25), none, .call (.c (.func (.func 80) #[] #[])) [.t 23, .t 24], []⟩, ⟨3, (some 22), none, .mov (.t 25), []⟩, ⟨4, (some 26), none, .ext (.t 22) 0, []⟩, ⟨5, (some 27), none, .ext (.t 22) 1, []⟩, ⟨6, (some 9), none, .mov (.t 26), []⟩, ⟨7, (some 10), none, .mov (.t 27), []⟩]) (.seq (.ops [⟨0, (some 29), none, .mov (.t 9), []⟩, ⟨1, (some 30), none, .mov (.t 10), []⟩, ⟨2, (some 31), none, .call (.c (.func (.func 81) #[] #[])) [.c (.bool false), .t 29, .t 30], []⟩, ⟨3, (some 28), none, .mov (.t 31), []⟩, ⟨4, (some 32), none, .ext (.t 28) 0, []⟩, ⟨5, (some 33), none, .ext (.t 28) 1, []⟩, ⟨6, (some 11), none, .mov (.t 32), []⟩, ⟨7, (some 12), none, .mov (.t 33), []⟩]) (.seq (.ops [⟨0, (some 34), none, .mov (.t 1), []⟩, ⟨1, (some 35), none, .len (.t 34), []⟩, ⟨2, (some 36), none, .mov (.t 0), []⟩, ⟨3, (some 37), none, .bin .sub (.t 35) (.t 36), []⟩, ⟨4, (some 38), none, .mks 5 1 [.int .u8 0] (.t 37) (.t 37), []⟩, ⟨5, (some 13), none, .mov (.t 38), []⟩]) (.seq (.seq (.ops [⟨0, (some 39), none, .mov (.t 0), []⟩, ⟨1, (some 14), none, .mov (.t 39), []⟩]) (.block 0 (.loop (.seq (.seq (.ops [⟨0, (some 40), none, .mov (.t 14), []⟩, ⟨1, (some 41), none, .mov (.t 11), []⟩, ⟨2, (some 42), none, .len (.t 41), []⟩, ⟨3, (some 43), none, .bin .lss (.t 40) (.t 42), []⟩]) (.ite (.t 43) .skip (.exit 0))) (.seq (.block 1 (.ops [⟨0, (some 46), none, .mov (.t 13), []⟩, ⟨1, (some 47), none, .mov (.t 14), []⟩, ⟨2, (some 48), none, .mov (.t 0), []⟩, ⟨3, (some 49), none, .bin .sub (.t 47) (.t 48), []⟩, ⟨4, (some 50), none, .mov (.t 11), []⟩, ⟨5, (some 51), none, .mov (.t 14), []⟩, ⟨6, (some 52), none, .ixs 1 (.t 50) (.t 51), []⟩, ⟨7, (some 53), none, .ld (.t 52), []⟩, ⟨8, (some 54), none, .cnv .u8 (.t 53), []⟩, ⟨9, (some 55), none, .ixs 1 (.t 46) (.t 49), []⟩, ⟨10, none, none, .st (.t 55) (.t 54), []⟩])) (.ops [⟨0, (some 44), none, .mov (.t 14), []⟩, ⟨1, (some 45), none, .bin .add (.t 44) (.c (.int .i64 1)), []⟩, ⟨2, (some 14), none, .mov (.t 45), []⟩])))))) (.seq (.ops [⟨0, (some 56), none, .mov (.t 13), []⟩, ⟨1, (some 6), none, .mov (.t 56), []⟩, ⟨2, (some 7), none, .mov (.c (.int .i64 0)), []⟩]) .ret)))))))
attribute [irreducible] c_culletref19_Syndromes
theorem run_culletref19_Syndromes {args : List Value} {w : World} {K : Value → World → Prop} (hn : args.length ≤ 57) (h : WP Try.prog c_culletref19_Syndromes (endQ [.t 6, .t 7] K) (initT args) w) : CallV Try.prog 51 args w K :=
  call_of follows Try.func51 (by kernel_rfl) (by kernel_rfl) hn h
def c_culletref19_Column : C := .seq (.ops [⟨0, (some 6), none, .mov (.c (.slice none 0 0)), []⟩, ⟨1, (some 7), none, .mov (.c (.slice none 0 0)), []⟩, ⟨2, (some 8), none, .mov (.c (.int .i64 0)), []⟩]) (.seq (.ops [⟨0, (some 15), none, .mov (.t 0), []⟩, ⟨1, (some 16), none, .mov (.t 1), []⟩, ⟨2, (some 17), none, .mov (.t 2), []⟩, ⟨3, (some 18), none, .call (.c (.func (.func 79) #[] #[])) [.t 15, .t 16, .t 17], []⟩, ⟨4, (some 9), none, .mov (.t 18), []⟩]) (.seq (.seq (.ops [⟨0, (some 19), none, .mov (.t 9), []⟩, ⟨1, (some 20), none, .bin .neq (.t 19) (.c (.int .i64 0)), []⟩]) (.ite (.t 20) (.seq (.ops [⟨0, (some 21), none, .mov (.t 9), []⟩, ⟨1, (some 6), none, .mov (.c (.slice none 0 0)), []⟩, ⟨2, (some 7), none, .mov (.c (.slice none 0 0)), []⟩, ⟨3, (some 8), none, .mov (.t 21), []⟩]) .ret) .skip)) (.seq (.ops [⟨0, (some 23), none, .mov (.t 0), []⟩, ⟨1, (some 24), none, .mov (.t 1), []⟩, ⟨2, (some 25), none, .mov (.t 2), []⟩, ⟨3, (some 26), none, .call (.c (.func (.func 82) #[] #[])) [.t 23, .t 24, .t 25], []⟩, ⟨4, (some 22), none, .mov (.t 26), []⟩, ⟨5, (some 27), none, .ext (.t 22) 0, []⟩, ⟨6, (some 28), none, .ext (.t 22) 1, []⟩, ⟨7, (some 10), none, .mov (.t 27), []⟩, ⟨8, (some 11), none, .mov (.t 28), []⟩]) (.seq (.seq (.ops [⟨0, (some 29), none, .mov (.t 11), []⟩, ⟨1, (some 30), none, .un .not (.t 29), []⟩]) (.ite (.t 30) (.seq (.ops [⟨0, (some 6), none, .mov (.c (.slice none 0 0)), []⟩, ⟨1, (some 7), none, .mov (.c (.slice none 0 0)), []⟩, ⟨2, (some 8), none, .mov (.c (.int .i64 190)), []⟩]) .ret) .skip)) (.seq (.ops [⟨0, (some 31), none, .mov (.t 1), []⟩, ⟨1, (some 32), none, .len (.t 31), []⟩, ⟨2, (some 33), none, .mks 5 1 [.int .u8 0] (.t 32) (.t 32), []⟩, ⟨3, (some 12), none, .mov (.t 33), []⟩]) (.seq (.ops [⟨0, (some 13), none, .mov (.c (.slice none 0 0)), []⟩]) (.seq (.seq (.ops [⟨0, (some 14), none, .mov (.c (.int .i64 0)), []⟩]) (.block 0 (.loop (.seq (.seq (.ops [⟨0, (some 34), none, .mov (.t 14), []⟩, ⟨1, (some 35), none, .mov (.t 1), []⟩, ⟨2, (some 36), none, .len (.t 35), []⟩, ⟨3, (some 37), none, .bin .lss (.t 34) (.t 36), []⟩]) (.ite (.t 37) .skip (.exit 0))) (.seq (.block 1 (.seq (.ops [⟨0, (some 40), none, .mov (.t 12), []⟩, ⟨1, (some 41), none, .mov (.t 14), []⟩, ⟨2, (some 42), none, .mov (.t 10), []⟩, ⟨3, (some 43), none, .mov (.t 1), []⟩, ⟨4, (some 44), none, .mov (.t 14), []⟩, ⟨5, (some 45), none, .ixs 1 (.t 43) (.t 44), []⟩, ⟨6, (some 46), none, .ld (.t 45), []⟩, ⟨7, (some 47), none, .call (.c (.func (.func 83) #[] #[])) [.t 42, .t 46], []⟩, ⟨8, (some 48), none, .ixs 1 (.t 40) (.t 41), []⟩, ⟨9, none, none, .st (.t 48) (.t 47), []⟩]) (.seq (.dops [⟨0, (some 49), none, .mov (.t 12), []⟩, ⟨1, (some 50), none, .mov (.t 14), []⟩, ⟨2, (some 51), none, .ixs 1 (.t 49) (.t 50), []⟩, ⟨3, (some 52), none, .ld (.t 51), []⟩, ⟨4, (some 53), none, .mov (.t 2), []⟩, ⟨5, (some 54), none, .mov (.t 14), []⟩, ⟨6, (some 55), none, .ixs 1 (.t 53) (.t 54), []⟩, ⟨7, (some 56), none, .ld (.t 55), []⟩, ⟨8, (some 57), none, .bin .neq (.t 52) (.t 56), []⟩]) (.ite (.t 57) (.ops [⟨0, (some 58), none, .mov (.t 13), []⟩, ⟨1, (some 59), none, .mov (.t 1), []⟩, ⟨2, (some 60), none, .mov (.t 14), []⟩, ⟨3, (some 61), none, .ixs 1 (.t 59) (.t 60), []⟩, ⟨4, (some 62), none, .ld (.t 61), []⟩, ⟨5, (some 63), none, .bsl 3 1 [.int .i64 0] [(0, (1, .t 62))], []⟩, ⟨6, (some 64), none, .app 3 8 [.int .i64 0] (.t 58) (.t 63), []⟩, ⟨7, (some 13), none, .mov (.t 64), []⟩]) .skip)))) (.ops [⟨0, (some 38), none, .mov (.t 14), []⟩, ⟨1, (some 39), none, .bin .add (.t 38) (.c (.int .i64 1)), []⟩, ⟨2, (some 14), none, .mov (.t 39), []⟩])))))) (.seq (.ops [⟨0, (some 65), none, .mov (.t 12), []⟩, ⟨1, (some 66), none, .mov (.t 13), []⟩, ⟨2, (some 6), none, .mov (.t 65), []⟩, ⟨3, (some 7), none, .mov (.t 66), []⟩, ⟨4, (some 8), none, .mov (.c (.int .i64 0)), []⟩]) .ret))))))))
attribute [irreducible] c_culletref19_Column
theorem run_culletref19_Column {args : List Value} {w : World} {K : Value → World → Prop} (hn : args.length ≤ 67) (h : WP Try.prog c_culletref19_Column (endQ [.t 6, .t 7, .t 8] K) (initT args) w) : CallV Try.prog 52 args w K :=
  call_of follows Try.func52 (by kernel_rfl) (by kernel_rfl) hn h
end Go.Proofs.Ytbaljbadlfopgaa.Fw
namespace Go.Proofs.Ytbaljbadlfopgaa.Fw
open Go Go.Fw
theorem culletref19_Column_spec (w : World) (k : Int) (s1 s2 : Value) (P : List Int) (Y : List (El 8)) (h1 : Sl w s1 P) (h2 : Sl w s2 Y) (hP : P.length ≤ 70368744175616) (hY : Y.length ≤ 140737488355328) :
    CallV Try.prog 52 [.int .i64 k, s1, s2] w fun v w' => RowKit.Below w.heap.size w w' ∧
      (((k < 1 ∨ k > 256 ∨ P.length > 256) ∧ v = .tuple #[.slice none 0 0, .slice none 0 0, .int .i64 4]) ∨
       (¬ (k < 1 ∨ k > 256 ∨ P.length > 256) ∧ ¬ asc P P.length ∧ v = .tuple #[.slice none 0 0, .slice none 0 0, .int .i64 110]) ∨
       (¬ (k < 1 ∨ k > 256 ∨ P.length > 256) ∧ asc P P.length ∧ Y.length ≠ P.length ∧ v = .tuple #[.slice none 0 0, .slice none 0 0, .int .i64 6]) ∨
       (¬ (k < 1 ∨ k > 256 ∨ P.length > 256) ∧ asc P P.length ∧ Y.length = P.length ∧ (P.length : Int) < k ∧ v = .tuple #[.slice none 0 0, .slice none 0 0, .int .i64 9]) ∨
       (¬ (k < 1 ∨ k > 256 ∨ P.length > 256) ∧ asc P P.length ∧ Y.length = P.length ∧ ¬ (P.length : Int) < k ∧
         ((∃ (sf so : Value) (g : List (El 8)), v = .tuple #[sf, so, .int .i64 0] ∧ Ow w.heap.size w' sf ((xsP P).map (evl g)) ∧ Ow w.heap.size w' so ((offP g P Y).map fun j => P.getD j 0) ∧ tr g = g ∧ g.length ≤ k.toNat ∧ (offP g P Y).length ≤ (P.length - k.toNat) / 2) ∨
          (v = .tuple #[.slice none 0 0, .slice none 0 0, .int .i64 190] ∧ ∀ g, tr g = g → g.length ≤ k.toNat → (P.length - k.toNat) / 2 < (offP g P Y).length)))) := by
  refine run_culletref19_Column (by simp) ?_
  simp only [c_culletref19_Column, WS, List.getElem_cons_zero, List.getElem_cons_succ, Option.isNone_some, Option.isNone_none, List.getD_cons_zero, List.getD_cons_succ, I.at, atL, atO, atP, evp, evs, retV, ↓reduceIte, Nat.reduceEqDiff, reduceCtorEq]
  refine X_call0 ((culletref19_checked_spec w k s1 s2 P Y h1 h2 hP hY).mono ?_)
  rintro vv w1 ⟨B, ⟨g1, rfl⟩ | ⟨g1, g2, rfl⟩ | ⟨g1, g2, g3, rfl⟩ | ⟨g1, g2, g3, g4, rfl⟩ | ⟨g1, g2, g3, g4, rfl⟩⟩
  · simp (maxSteps := 1000000) (disch := omega) only [WS, List.getElem_cons_zero, List.getElem_cons_succ, Option.isNone_some, Option.isNone_none, List.getD_cons_zero, List.getD_cons_succ, I.at, atL, atO, atP, evp, evs, retV, ↓reduceIte, Nat.reduceEqDiff, reduceCtorEq, AS, show decide ((4 : Int) ≠ 0) = true from rfl]
    exact ⟨B, Or.inl g1⟩
  · simp (maxSteps := 1000000) (disch := omega) only [WS, List.getElem_cons_zero, List.getElem_cons_succ, Option.isNone_some, Option.isNone_none, List.getD_cons_zero, List.getD_cons_succ, I.at, atL, atO, atP, evp, evs, retV, ↓reduceIte, Nat.reduceEqDiff, reduceCtorEq, AS, show decide ((110 : Int) ≠ 0) = true from rfl]
    exact ⟨B, Or.inr (Or.inl ⟨g1, g2⟩)⟩
  · simp (maxSteps := 1000000) (disch := omega) only [WS, List.getElem_cons_zero, List.getElem_cons_succ, Option.isNone_some, Option.isNone_none, List.getD_cons_zero, List.getD_cons_succ, I.at, atL, atO, atP, evp, evs, retV, ↓reduceIte, Nat.reduceEqDiff, reduceCtorEq, AS, show decide ((6 : Int) ≠ 0) = true from rfl]
    exact ⟨B, Or.inr (Or.inr (Or.inl ⟨g1, g2, g3⟩))⟩
  · simp (maxSteps := 1000000) (disch := omega) only [WS, List.getElem_cons_zero, List.getElem_cons_succ, Option.isNone_some, Option.isNone_none, List.getD_cons_zero, List.getD_cons_succ, I.at, atL, atO, atP, evp, evs, retV, ↓reduceIte, Nat.reduceEqDiff, reduceCtorEq, AS, show decide ((9 : Int) ≠ 0) = true from rfl]
    exact ⟨B, Or.inr (Or.inr (Or.inr (Or.inl ⟨g1, g2, g3, g4⟩)))⟩
  obtain ⟨K, rfl⟩ : ∃ K : Nat, k = (K : Int) := ⟨k.toNat, by omega⟩
  have h1 := h1.up B
  have h2 := h2.up B
  simp (maxSteps := 1000000) (disch := omega) only [WS, List.getElem_cons_zero, List.getElem_cons_succ, Option.isNone_some, Option.isNone_none, List.getD_cons_zero, List.getD_cons_succ, I.at, atL, atO, atP, evp, evs, retV, ↓reduceIte, Nat.reduceEqDiff, reduceCtorEq, AS, show decide ((0 : Int) ≠ 0) = false from rfl]
  refine X_call0 ((culletref19_near_spec w1 K s1 s2 P Y h1 h2 (by omega) (by omega) (by omega) g3 g2).mono ?_)
  rintro _ w2 ⟨hB, ⟨sf, g, rfl, of, tg, hgk, hon⟩ | ⟨sf, rfl, hfar⟩⟩
  rotate_left
  · have B := B.trans (hB.mono B.size)
    clear hB
    simp (maxSteps := 1000000) (disch := omega) only [WS, List.getElem_cons_zero, List.getElem_cons_succ, Option.isNone_some, Option.isNone_none, List.getD_cons_zero, List.getD_cons_succ, I.at, atL, atO, atP, evp, evs, retV, ↓reduceIte, Nat.reduceEqDiff, reduceCtorEq, AS]
    exact ⟨B, Or.inr (Or.inr (Or.inr (Or.inr ⟨g1, g2, g3, g4, Or.inr hfar⟩)))⟩
  have z1 := B.size
  have h1 := h1.up hB
  have h2 := h2.up hB
  have B := B.trans (hB.mono B.size)
  clear hB
  have of := of.sl
  simp (maxSteps := 1000000) (disch := omega) only [WS, List.getElem_cons_zero, List.getElem_cons_succ, Option.isNone_some, Option.isNone_none, List.getD_cons_zero, List.getD_cons_succ, I.at, atL, atO, atP, evp, evs, retV, ↓reduceIte, Nat.reduceEqDiff, reduceCtorEq, AS, h1.Xlen]
  refine X_mks (x := (0 : El 8)) (n := P.length) (by simp only [maxBytes]; omega) (by omega) fun sx w3 ox hB => ?_
  have gx := Seg.of ox
  have z3 := hB.size
  simp (maxSteps := 1000000) (disch := omega) only [WS, List.getElem_cons_zero, List.getElem_cons_succ, Option.isNone_some, Option.isNone_none, List.getD_cons_zero, List.getD_cons_succ, I.at, atL, atO, atP, evp, evs, retV, ↓reduceIte, Nat.reduceEqDiff, reduceCtorEq, AS]
  refine loop_of (fun t w' => t 1 = s1 ∧ t 2 = s2 ∧ t 10 = sf ∧ t 12 = sx ∧ RowKit.Below w2.heap.size w2 w' ∧ w3.heap.size ≤ w'.heap.size ∧ ∃ (i : Nat) (XL : List (El 8)) (so : Value), t 14 = .int .i64 (i : Int) ∧ i ≤ P.length ∧ XL.length = P.length ∧ (∀ j, j < i → nth XL j = evl g (nth (xsP P) j)) ∧ Seg w2.heap.size w3.heap.size w' sx XL ∧ t 13 = so ∧ Ow w3.heap.size w' so ((offs g (nth (xsP P)) (nth Y) i).map fun j => P.getD j 0)) (fun t _ => P.length - (toI (t 14)).toNat)
    ⟨by simp only [WS, List.getElem_cons_zero, List.getElem_cons_succ, Option.isNone_some, Option.isNone_none, List.getD_cons_zero, List.getD_cons_succ, I.at, atL, atO, atP, evp, evs, retV, ↓reduceIte, Nat.reduceEqDiff, reduceCtorEq], by simp only [WS, List.getElem_cons_zero, List.getElem_cons_succ, Option.isNone_some, Option.isNone_none, List.getD_cons_zero, List.getD_cons_succ, I.at, atL, atO, atP, evp, evs, retV, ↓reduceIte, Nat.reduceEqDiff, reduceCtorEq], by simp only [WS, List.getElem_cons_zero, List.getElem_cons_succ, Option.isNone_some, Option.isNone_none, List.getD_cons_zero, List.getD_cons_succ, I.at, atL, atO, atP, evp, evs, retV, ↓reduceIte, Nat.reduceEqDiff, reduceCtorEq], by simp only [WS, List.getElem_cons_zero, List.getElem_cons_succ, Option.isNone_some, Option.isNone_none, List.getD_cons_zero, List.getD_cons_succ, I.at, atL, atO, atP, evp, evs, retV, ↓reduceIte, Nat.reduceEqDiff, reduceCtorEq], hB, Nat.le_refl _, 0, _, .slice none 0 0, by simp only [WS, List.getElem_cons_zero, List.getElem_cons_succ, Option.isNone_some, Option.isNone_none, List.getD_cons_zero, List.getD_cons_succ, I.at, atL, atO, atP, evp, evs, retV, ↓reduceIte, Nat.reduceEqDiff, reduceCtorEq]; rfl, by omega, List.length_replicate .., fun j hj => absurd hj (Nat.not_lt_zero _), gx, by simp only [WS, List.getElem_cons_zero, List.getElem_cons_succ, Option.isNone_some, Option.isNone_none, List.getD_cons_zero, List.getD_cons_succ, I.at, atL, atO, atP, evp, evs, retV, ↓reduceIte, Nat.reduceEqDiff, reduceCtorEq], Or.inl ⟨rfl, rfl⟩⟩ ?_
  clear gx ox hB
  rintro t w4 ⟨t1, t2, t10, t12, D, z4, i, XL, so, t14, hi, lX, hX, gx, t13, oo⟩
  have h1' := h1.up D
  have h2' := h2.up D
  have of' := of.up D
  by_cases hin : i < P.length
  rotate_left
  · obtain rfl : i = P.length := by omega
    simp (maxSteps := 1000000) (disch := omega) only [WS, List.getElem_cons_zero, List.getElem_cons_succ, Option.isNone_some, Option.isNone_none, List.getD_cons_zero, List.getD_cons_succ, I.at, atL, atO, atP, evp, evs, retV, ↓reduceIte, Nat.reduceEqDiff, reduceCtorEq, AS, t1, t2, t10, t12, t14, t13, h1'.Xlen]
    have eX : XL = (xsP P).map (evl g) := List.ext_getElem (by rw [lX, List.length_map, xsP_len]) fun j a1 a2 => by
      have := hX j (by omega)
      rw [nth_get a1, nth_get (by rw [xsP_len]; omega)] at this
      rw [this, List.getElem_map]
    refine ⟨B.trans (D.mono B.size), Or.inr (Or.inr (Or.inr (Or.inr ⟨g1, g2, g3, g4, Or.inl ⟨sx, so, g, rfl, ?_, oo.mono (by have := B.size; omega), tg, hgk, hon⟩⟩)))⟩
    rw [← eX]
    exact gx.own.mono B.size
  have iY : i < Y.length := by omega
  have iX : i < XL.length := by omega
  obtain ⟨a1, a2, -⟩ := g2 i hin hin
  obtain ⟨pn, hpn⟩ : ∃ p : Nat, P[i] = (p : Int) := ⟨P[i].toNat, by omega⟩
  have hxi : nth (xsP P) i = en8 pn := by
    rw [nth_get (by rw [xsP_len]; exact hin), xsP_get P (by rw [xsP_len]; exact hin) hin, hpn]; rfl
  simp (maxSteps := 1000000) (disch := omega) only [WS, List.getElem_cons_zero, List.getElem_cons_succ, Option.isNone_some, Option.isNone_none, List.getD_cons_zero, List.getD_cons_succ, I.at, atL, atO, atP, evp, evs, retV, ↓reduceIte, Nat.reduceEqDiff, reduceCtorEq, AS, t1, t2, t10, t12, t14, t13, h1'.Xlen, h1'.Xix hin, h1'.Xld hin, cell_int, hpn]
  refine X_call0 ((culletref19_value_spec w4 sf g pn (by omega) of' (by omega)).mono ?_)
  rintro _ w5 ⟨rfl, rfl⟩
  simp (maxSteps := 1000000) (disch := omega) only [WS, List.getElem_cons_zero, List.getElem_cons_succ, Option.isNone_some, Option.isNone_none, List.getD_cons_zero, List.getD_cons_succ, I.at, atL, atO, atP, evp, evs, retV, ↓reduceIte, Nat.reduceEqDiff, reduceCtorEq, AS, t1, t2, t10, t12, t14, t13, gx.sl.Xix iX]
  refine gx.Xst iX (evl g (en8 pn)) fun w6 c gx2 hg q3 q4 => ?_
  have D := D.grown hg D.size fun x hx => by cases hx; exact q3
  have oo := oo.gr' hg fun x hx e => by cases hx; have := (oo.blk _ e).1; omega
  have z4 := Nat.le_trans z4 hg.size
  simp (maxSteps := 1000000) (disch := omega) only [WS, List.getElem_cons_zero, List.getElem_cons_succ, Option.isNone_some, Option.isNone_none, List.getD_cons_zero, List.getD_cons_succ, I.at, atL, atO, atP, evp, evs, retV, ↓reduceIte, Nat.reduceEqDiff, reduceCtorEq, AS, t1, t2, t10, t12, t14, t13]
  refine WP_dops ?_
  have bd := bel_drew w6
  have D := D.trans (bd.mono D.size)
  have oo := oo.up bd
  have gx2 := gx2.up bd
  have z4 := Nat.le_trans z4 bd.size
  clear bd h1' h2' of'
  have h1' := h1.up D
  have h2' := h2.up D
  have iX2 : i < (XL.set i (evl g (en8 pn))).length := by rw [List.length_set]; exact iX
  have eX2 : (XL.set i (evl g (en8 pn)))[i] = evl g (en8 pn) := List.getElem_set_self ..
  have hX2 : ∀ j, j < i + 1 → nth (XL.set i (evl g (en8 pn))) j = evl g (nth (xsP P) j) := fun j hj => by
    rw [nth_set iX]
    split
    · rename_i e; rw [e, hxi]
    · exact hX j (by omega)
  have hoff : offs g (nth (xsP P)) (nth Y) (i + 1) = offs g (nth (xsP P)) (nth Y) i ++ if evl g (nth (xsP P) i) = nth Y i then [] else [i] := by
    unfold offs
    rw [List.range_succ, List.filter_append]
    congr 1
    by_cases h : evl g (nth (xsP P) i) = nth Y i <;> simp [h]
  have hol : ((offs g (nth (xsP P)) (nth Y) i).map fun j => P.getD j 0).length ≤ i := by
    rw [List.length_map]
    unfold offs
    have := List.length_filter_le (fun j => !decide (evl g (nth (xsP P) j) = nth Y j)) (List.range i)
    rwa [List.length_range] at this
  rw [hxi, nth_get iY] at hoff
  by_cases heq : evl g (en8 pn) = Y[i]
  · rw [if_pos heq, List.append_nil] at hoff
    have eX3 := eX2.trans heq
    simp (maxSteps := 1000000) (disch := omega) only [ES, List.mem_cons, List.not_mem_nil, implies_true, forall_const, WS, List.getElem_cons_zero, List.getElem_cons_succ, Option.isNone_some, Option.isNone_none, List.getD_cons_zero, List.getD_cons_succ, I.at, atL, atO, atP, evp, evs, retV, ↓reduceIte, Nat.reduceEqDiff, reduceCtorEq, AS, t1, t2, t10, t12, t14, t13, gx2.sl.Eix iX2, gx2.sl.Eld iX2, h2'.Eix iY, h2'.Eld iY, cell_e8, eX3, ne_eq, not_true_eq_false, decide_false]
    refine ⟨⟨D, z4, i + 1, _, so, rfl, by omega, by rw [List.length_set]; exact lX, hX2, gx2, rfl, by rw [hoff]; exact oo⟩, by omega⟩
  · rw [if_neg heq] at hoff
    have hne : ((evl g (en8 pn)).v.toNat : Int) ≠ (Y[i].v.toNat : Int) := fun e => heq (El.ext (BitVec.eq_of_toNat_eq (by omega)))
    simp (maxSteps := 1000000) (disch := omega) only [ES, List.mem_cons, List.not_mem_nil, implies_true, forall_const, WS, List.getElem_cons_zero, List.getElem_cons_succ, Option.isNone_some, Option.isNone_none, List.getD_cons_zero, List.getD_cons_succ, I.at, atL, atO, atP, evp, evs, retV, ↓reduceIte, Nat.reduceEqDiff, reduceCtorEq, AS, t1, t2, t10, t12, t14, t13, gx2.sl.Eix iX2, gx2.sl.Eld iX2, h2'.Eix iY, h2'.Eld iY, cell_e8, eX2, decide_eq_true hne, h1'.Xix hin, h1'.Xld hin, cell_int]
    refine X_bsl (zs := [P[i]]) (by rfl) (by rfl) fun e0 w7 oe hB => ?_
    have D := D.trans (hB.mono D.size)
    have oo := oo.up hB
    have gx2 := gx2.up hB
    have z4 := Nat.le_trans z4 hB.size
    clear hB
    simp (maxSteps := 1000000) (disch := omega) only [WS, List.getElem_cons_zero, List.getElem_cons_succ, Option.isNone_some, Option.isNone_none, List.getD_cons_zero, List.getD_cons_succ, I.at, atL, atO, atP, evp, evs, retV, ↓reduceIte, Nat.reduceEqDiff, reduceCtorEq, AS, t1, t2, t10, t12, t14, t13]
    refine Ow.Xapp oo oe.sl z4 (by simp only [List.length_singleton, maxBytes]; omega) (by simp only [List.length_singleton]; omega) fun e2 w8 oo2 hg2 _ => ?_
    have D := Below.app D D.size hg2 fun c hc => by have := (oo.blk c hc).1; omega
    have gx2 := seg_app gx2 (ne_nil_of iX2) hg2 fun c hc => (oo.blk c hc).1
    have z4 := Nat.le_trans z4 hg2.size
    simp (maxSteps := 1000000) (disch := omega) only [WS, List.getElem_cons_zero, List.getElem_cons_succ, Option.isNone_some, Option.isNone_none, List.getD_cons_zero, List.getD_cons_succ, I.at, atL, atO, atP, evp, evs, retV, ↓reduceIte, Nat.reduceEqDiff, reduceCtorEq, AS, t1, t2, t10, t12, t14]
    refine ⟨⟨D, z4, i + 1, _, e2, rfl, by omega, by rw [List.length_set]; exact lX, hX2, gx2, rfl, ?_⟩, by omega⟩
    have : P.getD i 0 = P[i] := by rw [List.getD_eq_getElem?_getD, List.getElem?_eq_getElem hin]; rfl
    rw [hoff, List.map_append, List.map_cons, List.map_nil, this]
    exact oo2
theorem culletref19_Syndromes_spec (w : World) (k : Int) (s1 s2 : Value) (P : List Int) (Y : List (El 8)) (h1 : Sl w s1 P) (h2 : Sl w s2 Y) (hP : P.length ≤ 70368744175616) (hY : Y.length ≤ 140737488355328) :
    CallV Try.prog 51 [.int .i64 k, s1, s2] w fun v w' => RowKit.Below w.heap.size w w' ∧
      (((k < 1 ∨ k > 256 ∨ P.length > 256) ∧ v = .tuple #[.slice none 0 0, .int .i64 4]) ∨
       (¬ (k < 1 ∨ k > 256 ∨ P.length > 256) ∧ ¬ asc P P.length ∧ v = .tuple #[.slice none 0 0, .int .i64 110]) ∨
       (¬ (k < 1 ∨ k > 256 ∨ P.length > 256) ∧ asc P P.length ∧ Y.length ≠ P.length ∧ v = .tuple #[.slice none 0 0, .int .i64 6]) ∨
       (¬ (k < 1 ∨ k > 256 ∨ P.length > 256) ∧ asc P P.length ∧ Y.length = P.length ∧ (P.length : Int) < k ∧ v = .tuple #[.slice none 0 0, .int .i64 9]) ∨
       (¬ (k < 1 ∨ k > 256 ∨ P.length > 256) ∧ asc P P.length ∧ Y.length = P.length ∧ ¬ (P.length : Int) < k ∧ ∃ (s : Value) (S : List (El 8)), v = .tuple #[s, .int .i64 0] ∧ Ow w.heap.size w' s S ∧ S.length = P.length - k.toNat ∧ ∀ i, i < S.length → (co S).c i = (nw (nth (xsP P)) (nth Y) 0 P.length).c (k.toNat + i))) := by
  refine run_culletref19_Syndromes (by simp) ?_
  simp only [c_culletref19_Syndromes, WS, List.getElem_cons_zero, List.getElem_cons_succ, Option.isNone_some, Option.isNone_none, List.getD_cons_zero, List.getD_cons_succ, I.at, atL, atO, atP, evp, evs, retV, ↓reduceIte, Nat.reduceEqDiff, reduceCtorEq]
  refine X_call0 ((culletref19_checked_spec w k s1 s2 P Y h1 h2 hP hY).mono ?_)
  rintro vv w1 ⟨B, ⟨g1, rfl⟩ | ⟨g1, g2, rfl⟩ | ⟨g1, g2, g3, rfl⟩ | ⟨g1, g2, g3, g4, rfl⟩ | ⟨g1, g2, g3, g4, rfl⟩⟩
  · simp (maxSteps := 1000000) (disch := omega) only [WS, List.getElem_cons_zero, List.getElem_cons_succ, Option.isNone_some, Option.isNone_none, List.getD_cons_zero, List.getD_cons_succ, I.at, atL, atO, atP, evp, evs, retV, ↓reduceIte, Nat.reduceEqDiff, reduceCtorEq, AS, show decide ((4 : Int) ≠ 0) = true from rfl]
    exact ⟨B, Or.inl g1⟩
  · simp (maxSteps := 1000000) (disch := omega) only [WS, List.getElem_cons_zero, List.getElem_cons_succ, Option.isNone_some, Option.isNone_none, List.getD_cons_zero, List.getD_cons_succ, I.at, atL, atO, atP, evp, evs, retV, ↓reduceIte, Nat.reduceEqDiff, reduceCtorEq, AS, show decide ((110 : Int) ≠ 0) = true from rfl]
    exact ⟨B, Or.inr (Or.inl ⟨g1, g2⟩)⟩
  · simp (maxSteps := 1000000) (disch := omega) only [WS, List.getElem_cons_zero, List.getElem_cons_succ, Option.isNone_some, Option.isNone_none, List.getD_cons_zero, List.getD_cons_succ, I.at, atL, atO, atP, evp, evs, retV, ↓reduceIte, Nat.reduceEqDiff, reduceCtorEq, AS, show decide ((6 : Int) ≠ 0) = true from rfl]
    exact ⟨B, Or.inr (Or.inr (Or.inl ⟨g1, g2, g3⟩))⟩
  · simp (maxSteps := 1000000) (disch := omega) only [WS, List.getElem_cons_zero, List.getElem_cons_succ, Option.isNone_some, Option.isNone_none, List.getD_cons_zero, List.getD_cons_succ, I.at, atL, atO, atP, evp, evs, retV, ↓reduceIte, Nat.reduceEqDiff, reduceCtorEq, AS, show decide ((9 : Int) ≠ 0) = true from rfl]
    exact ⟨B, Or.inr (Or.inr (Or.inr (Or.inl ⟨g1, g2, g3, g4⟩)))⟩
  obtain ⟨K, rfl⟩ : ∃ K : Nat, k = (K : Int) := ⟨k.toNat, by omega⟩
  have h1 := h1.up B
  have h2 := h2.up B
  simp (maxSteps := 1000000) (disch := omega) only [WS, List.getElem_cons_zero, List.getElem_cons_succ, Option.isNone_some, Option.isNone_none, List.getD_cons_zero, List.getD_cons_succ, I.at, atL, atO, atP, evp, evs, retV, ↓reduceIte, Nat.reduceEqDiff, reduceCtorEq, AS, show decide ((0 : Int) ≠ 0) = false from rfl]
  refine X_call0 ((culletref19_wide_spec w1 s1 s2 P Y h1 h2 (by omega) g3 g2).mono ?_)
  rintro _ w2 ⟨hB, sx, sy, rfl, ox, oy⟩
  have h1 := h1.up hB
  have B := B.trans (hB.mono B.size)
  clear hB
  simp (maxSteps := 1000000) (disch := omega) only [WS, List.getElem_cons_zero, List.getElem_cons_succ, Option.isNone_some, Option.isNone_none, List.getD_cons_zero, List.getD_cons_succ, I.at, atL, atO, atP, evp, evs, retV, ↓reduceIte, Nat.reduceEqDiff, reduceCtorEq, AS]
  refine X_call0 ((culletref04_Interpolate_b_spec w2 sx sy (xsP P) Y ox.sl oy.sl (by rw [xsP_len]; omega) (by omega)).mono ?_)
  rintro vv w3 ⟨hB, hres⟩
  have hX := xsP_dist g2
  obtain ⟨sf, m, rfl, of, tm, lm, hm⟩ : ∃ (s : Value) (m : List (El 8)), vv = .tuple #[s, .int .i64 0] ∧ Ow w2.heap.size w3 s (m.map em8) ∧ tr m = m ∧ m.length ≤ P.length ∧ ∀ j, j < P.length → evl m (nth (xsP P) j) = nth Y j := by
    rcases hres with ⟨-, -, -, -, s, m, a1, a2, a3, a4, a5⟩ | ⟨-, -, h9, -⟩ | ⟨-, -, -, h9, -⟩ | ⟨h9, -⟩
    · rw [xsP_len] at a4 a5
      exact ⟨s, m, a1, a2, a3, a4, a5⟩
    · exact absurd (by rw [xsP_len]; exact g3) h9
    · exact absurd (by rw [xsP_len]; exact hX) h9
    · exact absurd ⟨by rw [xsP_len]; omega, by omega⟩ h9
  clear hres ox oy
  have hmn : co m = nw (nth (xsP P)) (nth Y) 0 P.length := nw_uniq hX ((co_dg m).mono lm) fun j hj => by
    rw [evn_eq ((co_dg m).mono lm) (co_dg m), ← evl_co]; exact hm j hj
  have of := of.sl
  have h1 := h1.up hB
  have B := B.trans (hB.mono B.size)
  clear hB
  have lmm : ((m.map em8).length : Int) = (m.length : Int) := by rw [List.length_map]
  have e1 : IntKind.i64.wrap ((P.length : Int) - (K : Int)) = ((P.length - K : Nat) : Int) := by rw [wrap_id (by omega) (by omega)]; omega
  simp (maxSteps := 1000000) (disch := omega) only [WS, List.getElem_cons_zero, List.getElem_cons_succ, Option.isNone_some, Option.isNone_none, List.getD_cons_zero, List.getD_cons_succ, I.at, atL, atO, atP, evp, evs, retV, ↓reduceIte, Nat.reduceEqDiff, reduceCtorEq, AS, h1.Xlen, e1]
  refine X_mks (x := (0 : El 8)) (n := P.length - K) (by simp only [maxBytes]; omega) (by omega) fun ss w4 os hB => ?_
  simp (maxSteps := 1000000) (disch := omega) only [WS, List.getElem_cons_zero, List.getElem_cons_succ, Option.isNone_some, Option.isNone_none, List.getD_cons_zero, List.getD_cons_succ, I.at, atL, atO, atP, evp, evs, retV, ↓reduceIte, Nat.reduceEqDiff, reduceCtorEq, AS]
  refine loop_of (fun t w' => t 0 = .int .i64 (K : Int) ∧ t 11 = sf ∧ t 13 = ss ∧ RowKit.Below w3.heap.size w3 w' ∧ ∃ (i : Nat) (S : List (El 8)), t 14 = .int .i64 ((K + i : Nat) : Int) ∧ (K + i ≤ m.length ∨ i = 0) ∧ S.length = P.length - K ∧ (∀ j, nth S j = if j < i then (co m).c (K + j) else 0) ∧ Ow w3.heap.size w' ss S) (fun t _ => m.length - (toI (t 14)).toNat)
    ⟨by simp only [WS, List.getElem_cons_zero, List.getElem_cons_succ, Option.isNone_some, Option.isNone_none, List.getD_cons_zero, List.getD_cons_succ, I.at, atL, atO, atP, evp, evs, retV, ↓reduceIte, Nat.reduceEqDiff, reduceCtorEq], by simp only [WS, List.getElem_cons_zero, List.getElem_cons_succ, Option.isNone_some, Option.isNone_none, List.getD_cons_zero, List.getD_cons_succ, I.at, atL, atO, atP, evp, evs, retV, ↓reduceIte, Nat.reduceEqDiff, reduceCtorEq], by simp only [WS, List.getElem_cons_zero, List.getElem_cons_succ, Option.isNone_some, Option.isNone_none, List.getD_cons_zero, List.getD_cons_succ, I.at, atL, atO, atP, evp, evs, retV, ↓reduceIte, Nat.reduceEqDiff, reduceCtorEq], hB, 0, _, by simp only [WS, List.getElem_cons_zero, List.getElem_cons_succ, Option.isNone_some, Option.isNone_none, List.getD_cons_zero, List.getD_cons_succ, I.at, atL, atO, atP, evp, evs, retV, ↓reduceIte, Nat.reduceEqDiff, reduceCtorEq]; rfl, Or.inr rfl, List.length_replicate .., fun j => by rw [nth_rep, if_neg (Nat.not_lt_zero _)], os⟩ ?_
  clear hB os
  rintro t w5 ⟨t0, t11, t13, D, i, S, t14, hi, lS, hS, os⟩
  have of5 := of.up D
  by_cases him : K + i < m.length
  · have im : K + i < (m.map em8).length := by rw [List.length_map]; exact him
    have iS : i < S.length := by omega
    have em : (m.map em8)[K + i] = em8 m[K + i] := List.getElem_map ..
    have hlt := m[K + i].v.isLt
    have u8 : IntKind.u8.wrap (((em8 m[K + i]).v.toNat : Nat) : Int) = (m[K + i].v.toNat : Int) := by rw [em8_nat, wrap_u8 _ (by omega)]
    have eik : IntKind.i64.wrap (((K + i : Nat) : Int) - (K : Int)) = (i : Int) := by rw [wrap_id (by omega) (by omega)]; omega
    simp (maxSteps := 1000000) (disch := omega) only [WS, List.getElem_cons_zero, List.getElem_cons_succ, Option.isNone_some, Option.isNone_none, List.getD_cons_zero, List.getD_cons_succ, I.at, atL, atO, atP, evp, evs, retV, ↓reduceIte, Nat.reduceEqDiff, reduceCtorEq, AS, t0, t11, t13, t14, of5.Xlen, lmm, of5.Xix im, of5.Xld im, cell_e16, em, u8, eik, os.sl.Xix iS]
    refine Ow.Xst os iS m[K + i] fun w6 os2 hg => ?_
    have D := Below.app D D.size hg fun c hc => (os.blk c hc).1
    simp (maxSteps := 1000000) (disch := omega) only [WS, List.getElem_cons_zero, List.getElem_cons_succ, Option.isNone_some, Option.isNone_none, List.getD_cons_zero, List.getD_cons_succ, I.at, atL, atO, atP, evp, evs, retV, ↓reduceIte, Nat.reduceEqDiff, reduceCtorEq, AS, t0, t11, t13, t14]
    refine ⟨⟨D, i + 1, _, by rw [Nat.add_assoc], Or.inl (by omega), by rw [List.length_set]; exact lS, fun j => ?_, os2⟩, by omega⟩
    rw [nth_set iS, hS j]
    by_cases e : j = i
    · rw [if_pos e, if_pos (by omega), e, co_get m him]
    · rw [if_neg e]
      by_cases e2 : j < i
      · rw [if_pos e2, if_pos (by omega)]
      · rw [if_neg e2, if_neg (by omega)]
  simp (maxSteps := 1000000) (disch := omega) only [WS, List.getElem_cons_zero, List.getElem_cons_succ, Option.isNone_some, Option.isNone_none, List.getD_cons_zero, List.getD_cons_succ, I.at, atL, atO, atP, evp, evs, retV, ↓reduceIte, Nat.reduceEqDiff, reduceCtorEq, AS, t0, t11, t13, t14, of5.Xlen, lmm]
  refine ⟨B.trans (D.mono B.size), Or.inr (Or.inr (Or.inr (Or.inr ⟨g1, g2, g3, g4, ss, S, rfl, os.mono B.size, lS, fun j hj => ?_⟩)))⟩
  have := hS j
  rw [Int.toNat_natCast, ← hmn]
  show nth S j = _
  rw [this]
  by_cases e : j < i
  · rw [if_pos e]
  · rw [if_neg e, co_dg m (K + j) (by omega)]
end Go.Proofs.Ytbaljbadlfopgaa.Fw
