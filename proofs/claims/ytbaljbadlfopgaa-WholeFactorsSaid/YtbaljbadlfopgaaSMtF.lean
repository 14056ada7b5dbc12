import Derived.Test.YtbaljbadlfopgaaProg
import Derived.Test.YtbaljbadlfopgaaFwTF
import Derived.Test.YtbaljbadlfopgaaSMsF
import Derived.Test.YtbaljbadlfopgaaSMaF
import Derived.Test.YtbaljbadlfopgaaGfZF
import Derived.Test.YtbaljbadlfopgaaGfWF
set_option linter.all false
set_option linter.unusedVariables false
set_option linter.unusedSimpArgs false
set_option maxRecDepth 100000
set_option maxHeartbeats 1000000
namespace Go.Proofs.Ytbaljbadlfopgaa.Fw
open Go Go.Fw Go.Proofs
attribute [local irreducible] stepI
def c_gf16_New : C := .seq (.ops [⟨0, (some 0), none, .mov (.c (.pointer none)), []⟩]) (.seq (.ops [⟨0, (some 4), none, .bld (List.replicate 131071 (.int .u16 0)) [], []⟩, ⟨1, (some 5), none, .box 180 (.t 4), []⟩, ⟨2, (some 1), none, .mov (.t 5), []⟩]) (.seq (.ops [⟨0, (some 2), none, .mov (.c (.int .i64 1)), []⟩]) (.seq (.seq (.ops [⟨0, (some 6), none, .mov (.c (.int .i64 0)), []⟩]) (.block 0 (.loop (.seq (.ops [⟨0, (some 7), none, .bin .lss (.t 6) (.c (.int .i64 65535)), []⟩]) (.seq (.ite (.t 7) .skip (.exit 0)) (.seq (.block 1 (.seq (.ops [⟨0, (some 8), none, .mov (.t 6), []⟩, ⟨1, (some 3), none, .mov (.t 8), []⟩]) (.seq (.ops [⟨0, (some 9), none, .mov (.t 1), []⟩, ⟨1, (some 10), none, .mov (.t 3), []⟩, ⟨2, (some 11), none, .mov (.t 2), []⟩, ⟨3, (some 12), none, .cnv .u16 (.t 11), []⟩, ⟨4, (some 13), none, .nil (.t 9), []⟩, ⟨5, (some 14), none, .fad 0 (.t 13), []⟩, ⟨6, (some 15), none, .ixa 65535 1 (.t 14) (.t 10), []⟩, ⟨7, none, none, .st (.t 15) (.t 12), []⟩]) (.seq (.ops [⟨0, (some 16), none, .mov (.t 1), []⟩, ⟨1, (some 17), none, .mov (.t 2), []⟩, ⟨2, (some 18), none, .mov (.t 3), []⟩, ⟨3, (some 19), none, .cnv .u16 (.t 18), []⟩, ⟨4, (some 20), none, .nil (.t 16), []⟩, ⟨5, (some 21), none, .fad 65535 (.t 20), []⟩, ⟨6, (some 22), none, .ixa 65536 1 (.t 21) (.t 17), []⟩, ⟨7, none, none, .st (.t 22) (.t 19), []⟩]) (.seq (.ops [⟨0, (some 23), none, .mov (.t 2), []⟩, ⟨1, (some 24), none, .bin .shl (.t 23) (.c (.int .u64 1)), []⟩, ⟨2, (some 2), none, .mov (.t 24), []⟩]) (.seq (.ops [⟨0, (some 25), none, .mov (.t 2), []⟩, ⟨1, (some 26), none, .bin .gtr (.t 25) (.c (.int .i64 65535)), []⟩]) (.ite (.t 26) (.ops [⟨0, (some 27), none, .mov (.t 2), []⟩, ⟨1, (some 28), none, .bin .xor (.t 27) (.c (.int .i64 65581)), []⟩, ⟨2, (some 2), none, .mov (.t 28), []⟩]) .skip))))))) (.ops [⟨0, (some 29), none, .bin .add (.t 6) (.c (.int .i64 1)), []⟩, ⟨1, (some 6), none, .mov (.t 29), []⟩]))))))) (.seq (.ops [⟨0, (some 30), none, .mov (.t 1), []⟩, ⟨1, (some 0), none, .mov (.t 30), []⟩]) .ret))))
attribute [irreducible] c_gf16_New
theorem run_gf16_New {args : List Value} {w : World} {K : Value → World → Prop} (hn : args.length ≤ 31) (h : WP Try.prog c_gf16_New (endQ [.t 0] K) (initT args) w) : CallV Try.prog 67 args w K :=
  call_of follows Try.func67 (by kernel_rfl) (by kernel_rfl) hn h
def c_gf16_Tables_Div : C := .seq (.ops [⟨0, (some 6), none, .mov (.c (.int .u16 0)), []⟩, ⟨1, (some 7), none, .mov (.c (.int .i64 0)), []⟩]) (.seq (.ops [⟨0, (some 11), none, .mov (.t 0), []⟩, ⟨1, (some 12), none, .mov (.t 2), []⟩, ⟨2, (some 13), none, .call (.c (.func (.func 106) #[] #[])) [.t 11, .t 12], []⟩, ⟨3, (some 10), none, .mov (.t 13), []⟩, ⟨4, (some 14), none, .ext (.t 10) 0, []⟩, ⟨5, (some 15), none, .ext (.t 10) 1, []⟩, ⟨6, (some 8), none, .mov (.t 14), []⟩, ⟨7, (some 9), none, .mov (.t 15), []⟩]) (.seq (.seq (.ops [⟨0, (some 16), none, .mov (.t 9), []⟩, ⟨1, (some 17), none, .bin .neq (.t 16) (.c (.int .i64 0)), []⟩]) (.ite (.t 17) (.seq (.ops [⟨0, (some 18), none, .mov (.t 9), []⟩, ⟨1, (some 6), none, .mov (.c (.int .u16 0)), []⟩, ⟨2, (some 7), none, .mov (.t 18), []⟩]) .ret) .skip)) (.seq (.ops [⟨0, (some 19), none, .mov (.t 0), []⟩, ⟨1, (some 20), none, .mov (.t 1), []⟩, ⟨2, (some 21), none, .mov (.t 8), []⟩, ⟨3, (some 22), none, .call (.c (.func (.func 107) #[] #[])) [.t 19, .t 20, .t 21], []⟩, ⟨4, (some 6), none, .mov (.t 22), []⟩, ⟨5, (some 7), none, .mov (.c (.int .i64 0)), []⟩]) .ret)))
attribute [irreducible] c_gf16_Tables_Div
theorem run_gf16_Tables_Div {args : List Value} {w : World} {K : Value → World → Prop} (hn : args.length ≤ 23) (h : WP Try.prog c_gf16_Tables_Div (endQ [.t 6, .t 7] K) (initT args) w) : CallV Try.prog 68 args w K :=
  call_of follows Try.func68 (by kernel_rfl) (by kernel_rfl) hn h
def c_gf16_Tables_Inv : C := .seq (.ops [⟨0, (some 4), none, .mov (.c (.int .u16 0)), []⟩, ⟨1, (some 5), none, .mov (.c (.int .i64 0)), []⟩]) (.seq (.seq (.ops [⟨0, (some 6), none, .mov (.t 0), []⟩, ⟨1, (some 7), none, .eqp false (.t 6) (.c (.pointer none)), []⟩]) (.ite (.t 7) (.seq (.ops [⟨0, (some 4), none, .mov (.c (.int .u16 0)), []⟩, ⟨1, (some 5), none, .mov (.c (.int .i64 1)), []⟩]) .ret) .skip)) (.seq (.seq (.ops [⟨0, (some 8), none, .mov (.t 1), []⟩, ⟨1, (some 9), none, .bin .eql (.t 8) (.c (.int .u16 0)), []⟩]) (.ite (.t 9) (.seq (.ops [⟨0, (some 4), none, .mov (.c (.int .u16 0)), []⟩, ⟨1, (some 5), none, .mov (.c (.int .i64 20)), []⟩]) .ret) .skip)) (.seq (.dops [⟨0, (some 10), none, .mov (.t 0), []⟩, ⟨1, (some 11), none, .mov (.t 0), []⟩, ⟨2, (some 12), none, .mov (.t 1), []⟩, ⟨3, (some 13), none, .nil (.t 11), []⟩, ⟨4, (some 14), none, .fad 65535 (.t 13), []⟩, ⟨5, (some 15), none, .ixa 65536 1 (.t 14) (.t 12), []⟩, ⟨6, (some 16), none, .ld (.t 15), []⟩, ⟨7, (some 17), none, .cnv .i64 (.t 16), []⟩, ⟨8, (some 18), none, .bin .sub (.c (.int .i64 65535)) (.t 17), []⟩, ⟨9, (some 19), none, .bin .rem (.t 18) (.c (.int .i64 65535)), []⟩, ⟨10, (some 20), none, .nil (.t 10), []⟩, ⟨11, (some 21), none, .fad 0 (.t 20), []⟩, ⟨12, (some 22), none, .ixa 65535 1 (.t 21) (.t 19), []⟩, ⟨13, (some 23), none, .ld (.t 22), []⟩, ⟨14, (some 4), none, .mov (.t 23), []⟩, ⟨15, (some 5), none, .mov (.c (.int .i64 0)), []⟩]) .ret)))
attribute [irreducible] c_gf16_Tables_Inv
theorem run_gf16_Tables_Inv {args : List Value} {w : World} {K : Value → World → Prop} (hn : args.length ≤ 24) (h : WP Try.prog c_gf16_Tables_Inv (endQ [.t 4, .t 5] K) (initT args) w) : CallV Try.prog 106 args w K :=
  call_of follows Try.func106 (by kernel_rfl) (by kernel_rfl) hn h
def c_gf16_Tables_Mul : C := .seq (.ops [⟨0, (some 6), none, .mov (.c (.int .u16 0)), []⟩]) (.seq (.seq (.ops [⟨0, (some 7), none, .mov (.t 0), []⟩, ⟨1, (some 8), none, .eqp false (.t 7) (.c (.pointer none)), []⟩, ⟨2, (some 9), none, .mov (.t 8), []⟩, ⟨3, (some 10), (some (9, false)), .mov (.t 1), []⟩, ⟨4, (some 11), (some (9, false)), .bin .eql (.t 10) (.c (.int .u16 0)), []⟩, ⟨5, (some 12), none, .pick (.t 9) (.c (.bool true)) (.t 11), []⟩, ⟨6, (some 13), none, .mov (.t 12), []⟩, ⟨7, (some 14), (some (13, false)), .mov (.t 2), []⟩, ⟨8, (some 15), (some (13, false)), .bin .eql (.t 14) (.c (.int .u16 0)), []⟩, ⟨9, (some 16), none, .pick (.t 13) (.c (.bool true)) (.t 15), []⟩]) (.ite (.t 16) (.seq (.ops [⟨0, (some 6), none, .mov (.c (.int .u16 0)), []⟩]) .ret) .skip)) (.seq (.dops [⟨0, (some 17), none, .mov (.t 0), []⟩, ⟨1, (some 18), none, .mov (.t 0), []⟩, ⟨2, (some 19), none, .mov (.t 1), []⟩, ⟨3, (some 20), none, .nil (.t 18), []⟩, ⟨4, (some 21), none, .fad 65535 (.t 20), []⟩, ⟨5, (some 22), none, .ixa 65536 1 (.t 21) (.t 19), []⟩, ⟨6, (some 23), none, .ld (.t 22), []⟩, ⟨7, (some 24), none, .cnv .i64 (.t 23), []⟩, ⟨8, (some 25), none, .mov (.t 0), []⟩, ⟨9, (some 26), none, .mov (.t 2), []⟩, ⟨10, (some 27), none, .nil (.t 25), []⟩, ⟨11, (some 28), none, .fad 65535 (.t 27), []⟩, ⟨12, (some 29), none, .ixa 65536 1 (.t 28) (.t 26), []⟩, ⟨13, (some 30), none, .ld (.t 29), []⟩, ⟨14, (some 31), none, .cnv .i64 (.t 30), []⟩, ⟨15, (some 32), none, .bin .add (.t 24) (.t 31), []⟩, ⟨16, (some 33), none, .bin .rem (.t 32) (.c (.int .i64 65535)), []⟩, ⟨17, (some 34), none, .nil (.t 17), []⟩, ⟨18, (some 35), none, .fad 0 (.t 34), []⟩, ⟨19, (some 36), none, .ixa 65535 1 (.t 35) (.t 33), []⟩, ⟨20, (some 37), none, .ld (.t 36), []⟩, ⟨21, (some 6), none, .mov (.t 37), []⟩]) .ret))
attribute [irreducible] c_gf16_Tables_Mul
theorem run_gf16_Tables_Mul {args : List Value} {w : World} {K : Value → World → Prop} (hn : args.length ≤ 38) (h : WP Try.prog c_gf16_Tables_Mul (endQ [.t 6] K) (initT args) w) : CallV Try.prog 107 args w K :=
  call_of follows Try.func107 (by kernel_rfl) (by kernel_rfl) hn h
end Go.Proofs.Ytbaljbadlfopgaa.Fw
namespace Go.Proofs.Ytbaljbadlfopgaa.Fw
open Go Go.Fw
/-- The tables of the field of 65536 elements: the powers, the logarithms behind. -/
def tabQ (T : List Nat) : List Value := T.map (fun (n : Nat) => Value.int .u16 (n : Int))
theorem tabQ_get {T : List Nat} {i n : Nat} (hi : i < (tabQ T).length) (h : T[i]? = some n) : (tabQ T)[i] = .int .u16 (n : Int) := by
  have h2 : (tabQ T)[i]? = some (.int .u16 (n : Int)) := by unfold tabQ; rw [List.getElem?_map, h]; rfl
  rw [List.getElem?_eq_getElem hi] at h2
  exact Option.some.inj h2
def Tab16 (w : World) (p : Value) : Prop := ∃ b T, p = .pointer (some ⟨b, 0, none⟩) ∧ Row w b (tabQ T) ∧ T.length = 131071 ∧ (∀ j, j < 65535 → T[j]? = some (gq j).toNat) ∧ ∀ j, j < 65535 → T[65535 + (gq j).toNat]? = some j
theorem Tab16.up {w w' : World} {p : Value} (h : Tab16 w p) (hb : RowKit.Below w.heap.size w w') : Tab16 w' p := by
  obtain ⟨b, T, h1, h2, h3⟩ := h
  exact ⟨b, T, h1, h2.up hb, h3⟩
theorem gf16_New_spec (w : World) : CallV Try.prog 67 [] w fun v w' => Tab16 w' v ∧ RowKit.Below w.heap.size w w' := by
  refine run_gf16_New (by simp) ?_
  have hz : ∀ cs : List Value, fillL cs [] = some cs := fun cs => rfl
  unfold c_gf16_New
  have hZ : List.replicate 131071 (Value.int .u16 0) = tabQ (List.replicate 131071 0) := by unfold tabQ; rw [List.map_replicate]; rfl
  have hl0 : (List.replicate 131071 0 : List Nat).length = 131071 := List.length_replicate ..
  rw [hZ]
  generalize (List.replicate 131071 0 : List Nat) = T0 at hl0
  simp only [WS, List.getElem_cons_zero, List.getElem_cons_succ, Option.isNone_some, Option.isNone_none, List.getD_cons_zero, List.getD_cons_succ, I.at, atL, atO, atP, evp, evs, retV, ↓reduceIte, Nat.reduceEqDiff, reduceCtorEq, X_bld, hz]
  refine X_box ?_
  intro b w1 hr hb hB
  have hr : Row w1 b (tabQ T0) := hr
  simp only [WS, List.getElem_cons_zero, List.getElem_cons_succ, Option.isNone_some, Option.isNone_none, List.getD_cons_zero, List.getD_cons_succ, I.at, atL, atO, atP, evp, evs, retV, ↓reduceIte, Nat.reduceEqDiff, reduceCtorEq]
  refine loop_of (fun t w' => ∃ (i : Nat) (T : List Nat), i ≤ 65535 ∧ t 1 = .pointer (some ⟨b, 0, none⟩) ∧ t 2 = .int .i64 ((gq i).toNat : Int) ∧ t 6 = .int .i64 (i : Int) ∧ Row w' b (tabQ T) ∧ RowKit.Below w.heap.size w w' ∧ T.length = 131071 ∧
    (∀ j, j < i → T[j]? = some (gq j).toNat) ∧ ∀ j, j < i → T[65535 + (gq j).toNat]? = some j)
    (fun t _ => (65535 - toI (t 6)).toNat) ⟨0, T0, by omega, rfl, rfl, rfl, hr, hB, hl0, fun j h => absurd h (by omega), fun j h => absurd h (by omega)⟩ ?_
  clear hr hB
  rintro t w2 ⟨i, T, hi, h1, h2, h6, hr, hB, hT, hp, hl⟩
  by_cases hlt : i < 65535
  · have hg := (gq i).isLt
    have hlen : (tabQ T).length = 131071 := by unfold tabQ; rw [List.length_map]; exact hT
    have u1 : IntKind.u16.wrap ((gq i).toNat : Int) = ((gq i).toNat : Int) := wrap_u16 _ hg
    have u2 : IntKind.u16.wrap (i : Int) = (i : Int) := wrap_u16 _ (by omega)
    have s1 : shlV .i64 ((gq i).toNat : Int) 1 = ((2 * (gq i).toNat : Nat) : Int) := by
      rw [show (1 : Int) = ((1 : Nat) : Int) from rfl, shl_nat fits_i64 _ 1 (by decide) (by omega), Nat.shiftLeft_eq]
      congr 1; omega
    have x1 : bitsOp .xor .i64 ((2 * (gq i).toNat : Nat) : Int) 65581 = (((2 * (gq i).toNat) ^^^ 65581 : Nat) : Int) := bits_xor fits_i64 (by omega) (by decide)
    have n1 : (gq (i + 1)).toNat = if 65535 < 2 * (gq i).toNat then (2 * (gq i).toNat) ^^^ 65581 else 2 * (gq i).toNat := mxb16 (gq i)
    have e1 : tabQ ((T.set i (gq i).toNat).set (65535 + (gq i).toNat) i) = ((tabQ T).set i (.int .u16 ((gq i).toNat : Int))).set (65535 + (gq i).toNat) (.int .u16 (i : Int)) := by unfold tabQ; rw [List.map_set, List.map_set]
    simp (maxSteps := 1000000) (disch := omega) only [WS, List.getElem_cons_zero, List.getElem_cons_succ, Option.isNone_some, Option.isNone_none, List.getD_cons_zero, List.getD_cons_succ, I.at, atL, atO, atP, evp, evs, retV, ↓reduceIte, Nat.reduceEqDiff, reduceCtorEq, AS, h1, h2, h6, u1]
    rw [X_ixa (show i < 65535 by omega)]
    simp (maxSteps := 1000000) (disch := omega) only [WS, List.getElem_cons_zero, List.getElem_cons_succ, Option.isNone_some, Option.isNone_none, List.getD_cons_zero, List.getD_cons_succ, I.at, atL, atO, atP, evp, evs, retV, ↓reduceIte, Nat.reduceEqDiff, reduceCtorEq, AS, h1, h2, h6, Nat.mul_one]
    refine Row.Xst (o := i) hr (by omega) rfl fun w3 hr3 hg3 => ?_
    have B3 := Below.row hB hb hg3
    simp (maxSteps := 1000000) (disch := omega) only [WS, List.getElem_cons_zero, List.getElem_cons_succ, Option.isNone_some, Option.isNone_none, List.getD_cons_zero, List.getD_cons_succ, I.at, atL, atO, atP, evp, evs, retV, ↓reduceIte, Nat.reduceEqDiff, reduceCtorEq, AS, h1, h2, h6, u2]
    rw [X_ixa (show (gq i).toNat < 65536 from hg)]
    simp (maxSteps := 1000000) (disch := omega) only [WS, List.getElem_cons_zero, List.getElem_cons_succ, Option.isNone_some, Option.isNone_none, List.getD_cons_zero, List.getD_cons_succ, I.at, atL, atO, atP, evp, evs, retV, ↓reduceIte, Nat.reduceEqDiff, reduceCtorEq, AS, h1, h2, h6, Nat.mul_one]
    refine Row.Xst (o := 65535 + (gq i).toNat) hr3 (by rw [List.length_set]; omega) rfl fun w4 hr4 hg4 => ?_
    have B4 := Below.row B3 hb hg4
    rw [← e1] at hr4
    have fin : ∃ T' : List Nat, Row w4 b (tabQ T') ∧ T'.length = 131071 ∧ (∀ j, j < i + 1 → T'[j]? = some (gq j).toNat) ∧ ∀ j, j < i + 1 → T'[65535 + (gq j).toNat]? = some j := by
      refine ⟨_, hr4, by rw [List.length_set, List.length_set]; exact hT, fun j hj => ?_, fun j hj => ?_⟩
      · rw [List.getElem?_set_ne (by omega)]
        by_cases e : j = i
        · subst e; rw [List.getElem?_set_self (by omega)]
        · rw [List.getElem?_set_ne (by omega)]; exact hp j (by omega)
      · by_cases e : j = i
        · subst e; rw [List.getElem?_set_self (by rw [List.length_set]; omega)]
        · rw [List.getElem?_set_ne (fun h => e (gq_inj (by omega) (by omega) (BitVec.eq_of_toNat_eq (by omega)))), List.getElem?_set_ne (by omega)]
          exact hl j (by omega)
    clear hr4 hr3 hr B3 e1 hg3 hg4
    obtain ⟨T', hr', hT', hp', hl'⟩ := fin
    by_cases hbig : 65535 < 2 * (gq i).toNat
    · rw [if_pos hbig] at n1
      simp (maxSteps := 1000000) (disch := omega) only [WS, List.getElem_cons_zero, List.getElem_cons_succ, Option.isNone_some, Option.isNone_none, List.getD_cons_zero, List.getD_cons_succ, I.at, atL, atO, atP, evp, evs, retV, ↓reduceIte, Nat.reduceEqDiff, reduceCtorEq, AS, h1, h2, h6, X_shl, s1, x1, show (0 : Int) ≤ 1 from by decide]
      exact ⟨⟨i + 1, T', by omega, by rw [n1], rfl, hr', B4, hT', hp', hl'⟩, by omega⟩
    · rw [if_neg hbig] at n1
      simp (maxSteps := 1000000) (disch := omega) only [WS, List.getElem_cons_zero, List.getElem_cons_succ, Option.isNone_some, Option.isNone_none, List.getD_cons_zero, List.getD_cons_succ, I.at, atL, atO, atP, evp, evs, retV, ↓reduceIte, Nat.reduceEqDiff, reduceCtorEq, AS, h1, h2, h6, X_shl, s1, show (0 : Int) ≤ 1 from by decide]
      exact ⟨⟨i + 1, T', by omega, by rw [n1], rfl, hr', B4, hT', hp', hl'⟩, by omega⟩
  · have : i = 65535 := by omega
    subst this
    simp (maxSteps := 1000000) (disch := omega) only [WS, List.getElem_cons_zero, List.getElem_cons_succ, Option.isNone_some, Option.isNone_none, List.getD_cons_zero, List.getD_cons_succ, I.at, atL, atO, atP, evp, evs, retV, ↓reduceIte, Nat.reduceEqDiff, reduceCtorEq, AS, h1, h2, h6, show decide (((65535 : Nat) : Int) < 65535) = false from rfl]
    exact ⟨⟨b, T, rfl, hr, hT, hp, hl⟩, hB⟩
theorem tm_q (x : Nat) : ((x : Nat) : Int).tmod 65535 = ((x % 65535 : Nat) : Int) := (Int.ofNat_tmod x 65535).symm
theorem el_zero16 (a : El 16) : ((a.v.toNat : Nat) : Int) = 0 ↔ a = 0 := by
  constructor
  · intro h
    exact El.ext (BitVec.eq_of_toNat_eq (by rw [show a.v.toNat = 0 by omega]; rfl))
  · rintro rfl; rfl
theorem gf16_Tables_Mul_spec (w : World) (p : Value) (h : Tab16 w p) (a b : El 16) : CallV Try.prog 107 [p, .int .u16 (a.v.toNat : Int), .int .u16 (b.v.toNat : Int)] w fun v w' => v = .int .u16 ((a * b).v.toNat : Int) ∧ Like w w' := by
  obtain ⟨bl, T, rfl, hr, hT, hp, hl⟩ := h
  have hlen : (tabQ T).length = 131071 := by unfold tabQ; rw [List.length_map]; exact hT
  have ha := a.v.isLt
  have hb := b.v.isLt
  refine run_gf16_Tables_Mul (by simp) ?_
  by_cases ha0 : a = 0
  · subst ha0
    simp only [c_gf16_Tables_Mul, WS, List.getElem_cons_zero, List.getElem_cons_succ, Option.isNone_some, Option.isNone_none, List.getD_cons_zero, List.getD_cons_succ, I.at, atL, atO, atP, evp, evs, retV, ↓reduceIte, Nat.reduceEqDiff, reduceCtorEq, El.zero_mul]
    simp only [WS, List.getElem_cons_zero, List.getElem_cons_succ, Option.isNone_some, Option.isNone_none, List.getD_cons_zero, List.getD_cons_succ, I.at, atL, atO, atP, evp, evs, retV, ↓reduceIte, Nat.reduceEqDiff, reduceCtorEq, show decide ((((0 : El 16).v.toNat : Nat) : Int) = 0) = true from rfl]
    exact ⟨rfl, Like.refl w⟩
  have d1 : decide ((a.v.toNat : Int) = 0) = false := decide_eq_false (by rw [el_zero16]; exact ha0)
  by_cases hb0 : b = 0
  · subst hb0
    simp only [c_gf16_Tables_Mul, WS, List.getElem_cons_zero, List.getElem_cons_succ, Option.isNone_some, Option.isNone_none, List.getD_cons_zero, List.getD_cons_succ, I.at, atL, atO, atP, evp, evs, retV, ↓reduceIte, Nat.reduceEqDiff, reduceCtorEq, d1, El.mul_zero]
    simp only [WS, List.getElem_cons_zero, List.getElem_cons_succ, Option.isNone_some, Option.isNone_none, List.getD_cons_zero, List.getD_cons_succ, I.at, atL, atO, atP, evp, evs, retV, ↓reduceIte, Nat.reduceEqDiff, reduceCtorEq, show decide ((((0 : El 16).v.toNat : Nat) : Int) = 0) = true from rfl]
    exact ⟨rfl, Like.refl w⟩
  have d2 : decide ((b.v.toNat : Int) = 0) = false := decide_eq_false (by rw [el_zero16]; exact hb0)
  obtain ⟨i, hi, ei⟩ := gq_ex a.v (fun e => ha0 (El.ext e))
  obtain ⟨j, hj, ej⟩ := gq_ex b.v (fun e => hb0 (El.ext e))
  have hli := hl i hi
  have hlj := hl j hj
  rw [ei] at hli
  rw [ej] at hlj
  have hm : (i + j) % 65535 < 65535 := Nat.mod_lt _ (by decide)
  have hpe := hp ((i + j) % 65535) hm
  have wi : IntKind.i64.wrap ((i : Int) + (j : Int)) = ((i + j : Nat) : Int) := w_add i j (by omega)
  have wa : IntKind.i64.wrap ((i : Nat) : Int) = (i : Int) := wrap_id (by omega) (by omega)
  have wb : IntKind.i64.wrap ((j : Nat) : Int) = (j : Int) := wrap_id (by omega) (by omega)
  have eq1 : gq ((i + j) % 65535) = (a * b).v := by
    rw [gq_wrap, ← gq_mul, ei, ej]; rfl
  rw [eq1] at hpe
  simp only [c_gf16_Tables_Mul, WS, List.getElem_cons_zero, List.getElem_cons_succ, Option.isNone_some, Option.isNone_none, List.getD_cons_zero, List.getD_cons_succ, I.at, atL, atO, atP, evp, evs, retV, ↓reduceIte, Nat.reduceEqDiff, reduceCtorEq, d1, d2]
  refine WP_dops ?_
  simp only [ES, List.mem_cons, List.not_mem_nil, implies_true, forall_const, WS, List.getElem_cons_zero, List.getElem_cons_succ, Option.isNone_some, Option.isNone_none, List.getD_cons_zero, List.getD_cons_succ, I.at, atL, atO, atP, evp, evs, retV, ↓reduceIte, Nat.reduceEqDiff, reduceCtorEq, E_ixa (show a.v.toNat < 65536 from ha), E_ixa (show b.v.toNat < 65536 from hb), addr_add0, Nat.zero_add, Nat.mul_one, Nat.add_zero,
    hr.drew.Eld (show 65535 + a.v.toNat < _ by omega), hr.drew.Eld (show 65535 + b.v.toNat < _ by omega), tabQ_get (show 65535 + a.v.toNat < (tabQ T).length by omega) hli, tabQ_get (show 65535 + b.v.toNat < (tabQ T).length by omega) hlj, wa, wb, wi, E_rem, ne_eq, show ((65535 : Int) = 0) = False from eq_false (by decide), not_false_eq_true, tm_q, E_ixa hm, hr.drew.Eld (show (i + j) % 65535 < _ by omega), tabQ_get (show (i + j) % 65535 < (tabQ T).length by omega) hpe]
  exact Like.drew w
theorem gf16_Tables_Inv_spec (w : World) (p : Value) (h : Tab16 w p) (a : El 16) (ha0 : a ≠ 0) : CallV Try.prog 106 [p, .int .u16 (a.v.toNat : Int)] w fun v w' => v = .tuple #[.int .u16 (a.inv.v.toNat : Int), .int .i64 0] ∧ Like w w' := by
  obtain ⟨bl, T, rfl, hr, hT, hp, hl⟩ := h
  have hlen : (tabQ T).length = 131071 := by unfold tabQ; rw [List.length_map]; exact hT
  have ha := a.v.isLt
  refine run_gf16_Tables_Inv (by simp) ?_
  have d1 : decide ((a.v.toNat : Int) = 0) = false := decide_eq_false (by rw [el_zero16]; exact ha0)
  obtain ⟨i, hi, ei⟩ := gq_ex a.v (fun e => ha0 (El.ext e))
  have hli := hl i hi
  rw [ei] at hli
  have hm : (65535 - i) % 65535 < 65535 := Nat.mod_lt _ (by decide)
  have hpe := hp ((65535 - i) % 65535) hm
  have wa : IntKind.i64.wrap ((i : Nat) : Int) = (i : Int) := wrap_id (by omega) (by omega)
  have wi : IntKind.i64.wrap (65535 - (i : Int)) = ((65535 - i : Nat) : Int) := by rw [wrap_id (by omega) (by omega)]; omega
  have eq1 : gq ((65535 - i) % 65535) = a.inv.v := by
    have h1 := inv_gq i (by omega)
    rw [ei] at h1
    rw [gq_wrap, show a = ⟨a.v⟩ from rfl, h1]
  rw [eq1] at hpe
  simp only [c_gf16_Tables_Inv, WS, List.getElem_cons_zero, List.getElem_cons_succ, Option.isNone_some, Option.isNone_none, List.getD_cons_zero, List.getD_cons_succ, I.at, atL, atO, atP, evp, evs, retV, ↓reduceIte, Nat.reduceEqDiff, reduceCtorEq, d1]
  refine WP_dops ?_
  simp only [ES, List.mem_cons, List.not_mem_nil, implies_true, forall_const, WS, List.getElem_cons_zero, List.getElem_cons_succ, Option.isNone_some, Option.isNone_none, List.getD_cons_zero, List.getD_cons_succ, I.at, atL, atO, atP, evp, evs, retV, ↓reduceIte, Nat.reduceEqDiff, reduceCtorEq, E_ixa (show a.v.toNat < 65536 from ha), addr_add0, Nat.zero_add, Nat.mul_one, Nat.add_zero,
    hr.drew.Eld (show 65535 + a.v.toNat < _ by omega), tabQ_get (show 65535 + a.v.toNat < (tabQ T).length by omega) hli, wa, wi, E_rem, ne_eq, show ((65535 : Int) = 0) = False from eq_false (by decide), not_false_eq_true, tm_q, E_ixa hm, hr.drew.Eld (show (65535 - i) % 65535 < _ by omega), tabQ_get (show (65535 - i) % 65535 < (tabQ T).length by omega) hpe]
  exact Like.drew w
theorem gf16_Tables_Div_spec (w : World) (p : Value) (h : Tab16 w p) (a b : El 16) (hb : b ≠ 0) : CallV Try.prog 68 [p, .int .u16 (a.v.toNat : Int), .int .u16 (b.v.toNat : Int)] w fun v w' => v = .tuple #[.int .u16 ((a * b.inv).v.toNat : Int), .int .i64 0] ∧ Like w w' := by
  refine run_gf16_Tables_Div (by simp) ?_
  simp only [c_gf16_Tables_Div, WS, List.getElem_cons_zero, List.getElem_cons_succ, Option.isNone_some, Option.isNone_none, List.getD_cons_zero, List.getD_cons_succ, I.at, atL, atO, atP, evp, evs, retV, ↓reduceIte, Nat.reduceEqDiff, reduceCtorEq]
  refine X_call0 ((gf16_Tables_Inv_spec w p h b hb).mono ?_)
  rintro _ w1 ⟨rfl, hL⟩
  simp (maxSteps := 1000000) (disch := omega) only [WS, List.getElem_cons_zero, List.getElem_cons_succ, Option.isNone_some, Option.isNone_none, List.getD_cons_zero, List.getD_cons_succ, I.at, atL, atO, atP, evp, evs, retV, ↓reduceIte, Nat.reduceEqDiff, reduceCtorEq, AS]
  refine X_call0 ((gf16_Tables_Mul_spec w1 p (h.up hL.1) a b.inv).mono ?_)
  rintro _ w2 ⟨rfl, hL2⟩
  simp (maxSteps := 1000000) (disch := omega) only [WS, List.getElem_cons_zero, List.getElem_cons_succ, Option.isNone_some, Option.isNone_none, List.getD_cons_zero, List.getD_cons_succ, I.at, atL, atO, atP, evp, evs, retV, ↓reduceIte, Nat.reduceEqDiff, reduceCtorEq, AS]
  exact hL.trans hL2
end Go.Proofs.Ytbaljbadlfopgaa.Fw
