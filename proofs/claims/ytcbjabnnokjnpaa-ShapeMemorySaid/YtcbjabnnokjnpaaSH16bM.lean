import Derived.Test.YtcbjabnnokjnpaaProg
import Derived.Test.YtcbjabnnokjnpaaFwTM
import Derived.Test.YtcbjabnnokjnpaaSH16aM
set_option linter.all false
set_option linter.unusedVariables false
set_option linter.unusedSimpArgs false
set_option maxRecDepth 100000
set_option maxHeartbeats 1000000
namespace Go.Proofs.Ytcbjabnnokjnpaa.Fw
open Go Go.Fw Go.Proofs
attribute [local irreducible] stepI
def c_shape_Partial : C := .seq (.ops [⟨0, (some 8), none, .mov (.c (.int .i64 0)), []⟩, ⟨1, (some 9), none, .mov (.c (.slice none 0 0)), []⟩, ⟨2, (some 10), none, .mov (.c (.int .i64 0)), []⟩]) (.seq (.seq (.ops [⟨0, (some 15), none, .mov (.t 0), []⟩, ⟨1, (some 16), none, .mov (.t 1), []⟩, ⟨2, (some 17), none, .mov (.t 2), []⟩, ⟨3, (some 18), none, .mov (.t 3), []⟩, ⟨4, (some 19), none, .call (.c (.func (.func 33) #[] #[])) [.t 15, .t 16, .t 17, .t 18], []⟩, ⟨5, (some 11), none, .mov (.t 19), []⟩]) (.seq (.ops [⟨0, (some 20), none, .mov (.t 11), []⟩, ⟨1, (some 21), none, .bin .neq (.t 20) (.c (.int .i64 0)), []⟩]) (.ite (.t 21) (.seq (.ops [⟨0, (some 22), none, .mov (.t 11), []⟩, ⟨1, (some 8), none, .mov (.c (.int .i64 0)), []⟩, ⟨2, (some 9), none, .mov (.c (.slice none 0 0)), []⟩, ⟨3, (some 10), none, .mov (.t 22), []⟩]) .ret) .skip))) (.seq (.ops [⟨0, (some 24), none, .mov (.t 3), []⟩, ⟨1, (some 25), none, .call (.c (.func (.func 34) #[] #[])) [.t 24], []⟩, ⟨2, (some 23), none, .mov (.t 25), []⟩, ⟨3, (some 26), none, .ext (.t 23) 0, []⟩, ⟨4, (some 27), none, .ext (.t 23) 1, []⟩, ⟨5, (some 28), none, .ext (.t 23) 2, []⟩, ⟨6, (some 12), none, .mov (.t 26), []⟩, ⟨7, (some 13), none, .mov (.t 27), []⟩, ⟨8, (some 14), none, .mov (.t 28), []⟩]) (.seq (.block 0 (.seq (.ops [⟨0, (some 30), none, .mov (.t 12), []⟩, ⟨1, (some 31), none, .bin .eql (.t 30) (.c (.int .i64 0)), []⟩, ⟨2, (some 29), none, .mov (.t 31), []⟩]) (.ite (.t 29) (.seq (.ops [⟨0, (some 8), none, .mov (.c (.int .i64 0)), []⟩, ⟨1, (some 9), none, .mov (.c (.slice none 0 0)), []⟩, ⟨2, (some 10), none, .mov (.c (.int .i64 161)), []⟩]) .ret) (.seq (.ops [⟨0, (some 33), none, .mov (.t 14), []⟩, ⟨1, (some 34), none, .un .not (.t 33), []⟩, ⟨2, (some 32), none, .mov (.t 34), []⟩]) (.ite (.t 32) (.seq (.ops [⟨0, (some 8), none, .mov (.c (.int .i64 0)), []⟩, ⟨1, (some 9), none, .mov (.c (.slice none 0 0)), []⟩, ⟨2, (some 10), none, .mov (.c (.int .i64 162)), []⟩]) .ret) (.seq (.ops [⟨0, (some 36), none, .mov (.t 0), []⟩, ⟨1, (some 37), none, .mov (.t 12), []⟩, ⟨2, (some 38), none, .call (.c (.func (.func 30) #[] #[])) [.t 36, .t 37], []⟩, ⟨3, (some 35), none, .mov (.t 38), []⟩]) (.ite (.t 35) (.seq (.ops [⟨0, (some 8), none, .mov (.c (.int .i64 0)), []⟩, ⟨1, (some 9), none, .mov (.c (.slice none 0 0)), []⟩, ⟨2, (some 10), none, .mov (.c (.int .i64 8)), []⟩]) .ret) (.seq (.ops [⟨0, (some 40), none, .mov (.t 13), []⟩, ⟨1, (some 41), none, .len (.t 40), []⟩, ⟨2, (some 42), none, .mov (.t 2), []⟩, ⟨3, (some 43), none, .bin .gtr (.t 41) (.t 42), []⟩, ⟨4, (some 39), none, .mov (.t 43), []⟩]) (.ite (.t 39) (.seq (.ops [⟨0, (some 8), none, .mov (.c (.int .i64 0)), []⟩, ⟨1, (some 9), none, .mov (.c (.slice none 0 0)), []⟩, ⟨2, (some 10), none, .mov (.c (.int .i64 9)), []⟩]) .ret) .skip))))))))) (.seq (.ops [⟨0, (some 44), none, .mov (.t 12), []⟩, ⟨1, (some 45), none, .mov (.t 13), []⟩, ⟨2, (some 8), none, .mov (.t 44), []⟩, ⟨3, (some 9), none, .mov (.t 45), []⟩, ⟨4, (some 10), none, .mov (.c (.int .i64 0)), []⟩]) .ret))))
attribute [irreducible] c_shape_Partial
theorem run_shape_Partial {args : List Value} {w : World} {K : Value → World → Prop} (hn : args.length ≤ 46) (h : WP Try.prog c_shape_Partial (endQ [.t 8, .t 9, .t 10] K) (initT args) w) : CallV Try.prog 24 args w K :=
  call_of follows Try.func24 (by kernel_rfl) (by kernel_rfl) hn h
def c_shape_odd : C := .seq (.ops [⟨0, (some 4), none, .mov (.c (.bool false)), []⟩]) (.seq (.ops [⟨0, (some 5), none, .mov (.t 0), []⟩, ⟨1, (some 6), none, .bin .eql (.t 5) (.c (.int .i64 2)), []⟩, ⟨2, (some 7), none, .mov (.t 6), []⟩, ⟨3, (some 8), (some (7, true)), .mov (.t 1), []⟩, ⟨4, (some 9), (some (7, true)), .bin .rem (.t 8) (.c (.int .i64 2)), []⟩, ⟨5, (some 10), (some (7, true)), .bin .eql (.t 9) (.c (.int .i64 1)), []⟩, ⟨6, (some 11), none, .pick (.t 7) (.t 10) (.c (.bool false)), []⟩, ⟨7, (some 4), none, .mov (.t 11), []⟩]) .ret)
attribute [irreducible] c_shape_odd
theorem run_shape_odd {args : List Value} {w : World} {K : Value → World → Prop} (hn : args.length ≤ 12) (h : WP Try.prog c_shape_odd (endQ [.t 4] K) (initT args) w) : CallV Try.prog 30 args w K :=
  call_of follows Try.func30 (by kernel_rfl) (by kernel_rfl) hn h
end Go.Proofs.Ytcbjabnnokjnpaa.Fw
namespace Go.Proofs.Ytcbjabnnokjnpaa.Fw
open Go Go.Fw
def oddB (f : Int) (len : Nat) : Bool := decide (f = 2 ∧ len % 2 = 1)
theorem shape_odd_spec (w : World) (f : Int) (len : Nat) : CallV Try.prog 30 [.int .i64 f, .int .i64 (len : Int)] w fun v w' => v = .bool (oddB f len) ∧ w' = w := by
  refine run_shape_odd (by simp) ?_
  simp only [c_shape_odd, WS, List.getElem_cons_zero, List.getElem_cons_succ, Option.isNone_some, Option.isNone_none, List.getD_cons_zero, List.getD_cons_succ, I.at, atL, atO, atP, evp, evs, retV, ↓reduceIte, Nat.reduceEqDiff, reduceCtorEq]
  have ht : ((len : Nat) : Int).tmod 2 = ((len % 2 : Nat) : Int) := tmod_nat len 2
  by_cases h1 : f = 2
  · by_cases h2 : len % 2 = 1
    · rw [show oddB f len = true from decide_eq_true ⟨h1, h2⟩]
      simp (maxSteps := 1000000) (disch := omega) only [WS, List.getElem_cons_zero, List.getElem_cons_succ, Option.isNone_some, Option.isNone_none, List.getD_cons_zero, List.getD_cons_succ, I.at, atL, atO, atP, evp, evs, retV, ↓reduceIte, Nat.reduceEqDiff, reduceCtorEq, AS, X_rem, ht]
      omega
    · rw [show oddB f len = false from decide_eq_false fun h => h2 h.2]
      simp (maxSteps := 1000000) (disch := omega) only [WS, List.getElem_cons_zero, List.getElem_cons_succ, Option.isNone_some, Option.isNone_none, List.getD_cons_zero, List.getD_cons_succ, I.at, atL, atO, atP, evp, evs, retV, ↓reduceIte, Nat.reduceEqDiff, reduceCtorEq, AS, X_rem, ht]
      omega
  · rw [show oddB f len = false from decide_eq_false fun h => h1 h.1]
    simp (maxSteps := 1000000) (disch := omega) only [WS, List.getElem_cons_zero, List.getElem_cons_succ, Option.isNone_some, Option.isNone_none, List.getD_cons_zero, List.getD_cons_succ, I.at, atL, atO, atP, evp, evs, retV, ↓reduceIte, Nat.reduceEqDiff, reduceCtorEq, AS]
def prt (f k m : Int) (n z len : Nat) (ev : Bool) : Int × Int := if cnt f k m n ≠ 0 then (0, cnt f k m n) else if len = 0 then (0, 161) else if ev = false then (0, 162) else if oddB f len then (0, 8) else if m < z then (0, 9) else ((len : Int), 0)
theorem shape_Partial_spec (w : World) (f k m : Int) (s : Value) (hs : List Hd) (h : Sl w s hs) : CallV Try.prog 24 [.int .i64 f, .int .i64 k, .int .i64 m, s] w fun v w' => RowKit.Below w.heap.size w w' ∧ ∃ (len : Nat) (ev : Bool) (z : Value), (cnt f k m hs.length = 0 → Lns (hln hs) hs.length len ev) ∧
    v = .tuple #[.int .i64 (prt f k m hs.length (zis (hln hs) hs.length).length len ev).1, z, .int .i64 (prt f k m hs.length (zis (hln hs) hs.length).length len ev).2] ∧ Ow w.heap.size w' z (if (prt f k m hs.length (zis (hln hs) hs.length).length len ev).2 = 0 then zis (hln hs) hs.length else []) := by
  refine run_shape_Partial (by simp) ?_
  simp only [c_shape_Partial, WS, List.getElem_cons_zero, List.getElem_cons_succ, Option.isNone_some, Option.isNone_none, List.getD_cons_zero, List.getD_cons_succ, I.at, atL, atO, atP, evp, evs, retV, ↓reduceIte, Nat.reduceEqDiff, reduceCtorEq]
  refine X_call0 ((shape_counted_spec w f k m s hs h).mono ?_)
  rintro _ w' ⟨rfl, rfl⟩
  by_cases h0 : cnt f k m hs.length = 0
  rotate_left
  · simp (maxSteps := 1000000) (disch := omega) only [WS, List.getElem_cons_zero, List.getElem_cons_succ, Option.isNone_some, Option.isNone_none, List.getD_cons_zero, List.getD_cons_succ, I.at, atL, atO, atP, evp, evs, retV, ↓reduceIte, Nat.reduceEqDiff, reduceCtorEq, AS]
    have e : prt f k m hs.length (zis (hln hs) hs.length).length 0 true = (0, cnt f k m hs.length) := by unfold prt; rw [if_pos h0]
    exact ⟨RowKit.Below.refl _ _, 0, true, _, fun e => absurd e h0, by rw [e], by rw [e, if_neg h0]; exact Ow.nil _ _⟩
  have hb := cnt_ok h0
  rw [h0]
  simp (maxSteps := 1000000) (disch := omega) only [WS, List.getElem_cons_zero, List.getElem_cons_succ, Option.isNone_some, Option.isNone_none, List.getD_cons_zero, List.getD_cons_succ, I.at, atL, atO, atP, evp, evs, retV, ↓reduceIte, Nat.reduceEqDiff, reduceCtorEq, AS, show decide ((0 : Int) = 0) = true from rfl]
  refine X_call0 ((shape_lengths_spec w' s hs h (by omega)).mono ?_)
  rintro _ w2 ⟨len, ev, z, rfl, hL, oz, B⟩
  by_cases hz : len = 0
  · simp (maxSteps := 1000000) (disch := omega) only [WS, List.getElem_cons_zero, List.getElem_cons_succ, Option.isNone_some, Option.isNone_none, List.getD_cons_zero, List.getD_cons_succ, I.at, atL, atO, atP, evp, evs, retV, ↓reduceIte, Nat.reduceEqDiff, reduceCtorEq, AS]
    have e : prt f k m hs.length (zis (hln hs) hs.length).length len ev = (0, 161) := by unfold prt; rw [if_neg (fun e => e h0), if_pos hz]
    exact ⟨B, len, ev, _, fun _ => hL, by rw [e], by rw [e, if_neg (by decide)]; exact Ow.nil _ _⟩
  cases ev
  · simp (maxSteps := 1000000) (disch := omega) only [WS, List.getElem_cons_zero, List.getElem_cons_succ, Option.isNone_some, Option.isNone_none, List.getD_cons_zero, List.getD_cons_succ, I.at, atL, atO, atP, evp, evs, retV, ↓reduceIte, Nat.reduceEqDiff, reduceCtorEq, AS]
    have e : prt f k m hs.length (zis (hln hs) hs.length).length len false = (0, 162) := by unfold prt; rw [if_neg (fun e => e h0), if_neg hz, if_pos rfl]
    exact ⟨B, len, false, _, fun _ => hL, by rw [e], by rw [e, if_neg (by decide)]; exact Ow.nil _ _⟩
  simp (maxSteps := 1000000) (disch := omega) only [WS, List.getElem_cons_zero, List.getElem_cons_succ, Option.isNone_some, Option.isNone_none, List.getD_cons_zero, List.getD_cons_succ, I.at, atL, atO, atP, evp, evs, retV, ↓reduceIte, Nat.reduceEqDiff, reduceCtorEq, AS]
  refine X_call0 ((shape_odd_spec w2 f len).mono ?_)
  rintro _ w3 ⟨rfl, rfl⟩
  by_cases ho : oddB f len = true
  · rw [ho]
    simp (maxSteps := 1000000) (disch := omega) only [WS, List.getElem_cons_zero, List.getElem_cons_succ, Option.isNone_some, Option.isNone_none, List.getD_cons_zero, List.getD_cons_succ, I.at, atL, atO, atP, evp, evs, retV, ↓reduceIte, Nat.reduceEqDiff, reduceCtorEq, AS]
    have e : prt f k m hs.length (zis (hln hs) hs.length).length len true = (0, 8) := by unfold prt; rw [if_neg (fun e => e h0), if_neg hz, if_neg (by simp), if_pos ho]
    exact ⟨B, len, true, _, fun _ => hL, by rw [e], by rw [e, if_neg (by decide)]; exact Ow.nil _ _⟩
  rw [Bool.not_eq_true] at ho
  rw [ho]
  by_cases hm : m < ((zis (hln hs) hs.length).length : Int)
  · simp (maxSteps := 1000000) (disch := omega) only [WS, List.getElem_cons_zero, List.getElem_cons_succ, Option.isNone_some, Option.isNone_none, List.getD_cons_zero, List.getD_cons_succ, I.at, atL, atO, atP, evp, evs, retV, ↓reduceIte, Nat.reduceEqDiff, reduceCtorEq, AS, oz.sl.Xlen]
    have e : prt f k m hs.length (zis (hln hs) hs.length).length len true = (0, 9) := by unfold prt; rw [if_neg (fun e => e h0), if_neg hz, if_neg (by simp), if_neg (by simp [ho]), if_pos hm]
    exact ⟨B, len, true, _, fun _ => hL, by rw [e], by rw [e, if_neg (by decide)]; exact Ow.nil _ _⟩
  · simp (maxSteps := 1000000) (disch := omega) only [WS, List.getElem_cons_zero, List.getElem_cons_succ, Option.isNone_some, Option.isNone_none, List.getD_cons_zero, List.getD_cons_succ, I.at, atL, atO, atP, evp, evs, retV, ↓reduceIte, Nat.reduceEqDiff, reduceCtorEq, AS, oz.sl.Xlen]
    have e : prt f k m hs.length (zis (hln hs) hs.length).length len true = ((len : Int), 0) := by unfold prt; rw [if_neg (fun e => e h0), if_neg hz, if_neg (by simp), if_neg (by simp [ho]), if_neg hm]
    exact ⟨B, len, true, _, fun _ => hL, by rw [e], by rw [e, if_pos rfl]; exact oz⟩
end Go.Proofs.Ytcbjabnnokjnpaa.Fw
