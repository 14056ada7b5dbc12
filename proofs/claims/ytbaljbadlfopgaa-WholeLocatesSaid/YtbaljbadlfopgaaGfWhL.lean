import Derived.Test.YtbaljbadlfopgaaSMrL
import Derived.Test.YtbaljbadlfopgaaGfPL
import Derived.Test.YtbaljbadlfopgaaProg
import Derived.Test.YtbaljbadlfopgaaFwTL
import Derived.Test.YtbaljbadlfopgaaSMaL
set_option linter.all false
/- Powers of two; an element by its four digits. Plain maths. -/
set_option linter.unusedVariables false
namespace Go.Fw
/-- The element of a number -/
def eN (n : Nat) : El 16 := ⟨BitVec.ofNat 16 n⟩
theorem badd_and (m : BitVec 16) : BAdd (fun a : BitVec 16 => a &&& m) := fun a b => by
  apply BitVec.eq_of_getLsbD_eq; intro i hi
  simp only [BitVec.getLsbD_and, BitVec.getLsbD_xor]
  cases a.getLsbD i <;> cases b.getLsbD i <;> cases m.getLsbD i <;> rfl
theorem badd_shl (k : Nat) : BAdd (fun a : BitVec 16 => a <<< k) := fun a b => BitVec.shiftLeft_xor_distrib a b k
theorem digits (x : BitVec 16) : (x &&& 15#16) ^^^ (((x >>> 4) &&& 15#16) <<< 4) ^^^ (((x >>> 8) &&& 15#16) <<< 8) ^^^ ((x >>> 12) <<< 12) = x :=
  BAdd.ext (f := fun x => (x &&& 15#16) ^^^ (((x >>> 4) &&& 15#16) <<< 4) ^^^ (((x >>> 8) &&& 15#16) <<< 8) ^^^ ((x >>> 12) <<< 12))
    (BAdd.xor (BAdd.xor (BAdd.xor (badd_and _) (BAdd.comp (badd_shl 4) (BAdd.comp (badd_and _) (badd_shr 16 4)))) (BAdd.comp (badd_shl 8) (BAdd.comp (badd_and _) (badd_shr 16 8)))) (BAdd.comp (badd_shl 12) (badd_shr 16 12))) badd_id (by decide +kernel) x
/-- What the table of the n-th digit holds at x. -/
def want (c : El 16) (n x : Nat) : El 16 := c * eN (x <<< (4 * n))
end Go.Fw

set_option linter.unusedVariables false
set_option linter.unusedSimpArgs false
set_option maxRecDepth 100000
set_option maxHeartbeats 1000000
namespace Go.Proofs.Ytbaljbadlfopgaa.Fw
open Go Go.Fw Go.Proofs
attribute [local irreducible] stepI
def c_gf16_New : C := .seq (.ops [⟨0, (some 0), none, .mov (.c (.pointer none)), []⟩]) (.seq (.ops [⟨0, (some 4), none, .bld (List.replicate 131071 (.int .u16 0)) [], []⟩, ⟨1, (some 5), none, .box 180 (.t 4), []⟩, ⟨2, (some 1), none, .mov (.t 5), []⟩]) (.seq (.ops [⟨0, (some 2), none, .mov (.c (.int .i64 1)), []⟩]) (.seq (.seq (.ops [⟨0, (some 6), none, .mov (.c (.int .i64 0)), []⟩]) (.block 0 (.loop (.seq (.ops [⟨0, (some 7), none, .bin .lss (.t 6) (.c (.int .i64 65535)), []⟩]) (.seq (.ite (.t 7) .skip (.exit 0)) (.seq (.block 1 (.seq (.ops [⟨0, (some 8), none, .mov (.t 6), []⟩, ⟨1, (some 3), none, .mov (.t 8), []⟩]) (.seq (.ops [⟨0, (some 9), none, .mov (.t 1), []⟩, ⟨1, (some 10), none, .mov (.t 3), []⟩, ⟨2, (some 11), none, .mov (.t 2), []⟩, ⟨3, (some 12), none, .cnv .u16 (.t 11), []⟩, ⟨4, (some 13), none, .nil (.t 9), []⟩, ⟨5, (some 14), none, .fad 0 (.t 13), []⟩, ⟨6, (some 15), none, .ixa 65535 1 (.t 14) (.t 10), []⟩, ⟨7, none, none, .st (.t 15) (.t 12), []⟩]) (.seq (.ops [⟨0, (some 16), none, .mov (.t 1), []⟩, ⟨1, (some 17), none, .mov (.t 2), []⟩, ⟨2, (some 18), none, .mov (.t 3), []⟩, ⟨3, (some 19), none, .cnv .u16 (.t 18), []⟩, ⟨4, (some 20), none, .nil (.t 16), []⟩, ⟨5, (some 21), none, .fad 65535 (.t 20), []⟩, ⟨6, (some 22), none, .ixa 65536 1 (.t 21) (.t 17), []⟩, ⟨7, none, none, .st (.t 22) (.t 19), []⟩]) (.seq (.ops [⟨0, (some 23), none, .mov (.t 2), []⟩, ⟨1, (some 24), none, .bin .shl (.t 23) (.c (.int .u64 1)), []⟩, ⟨2, (some 2), none, .mov (.t 24), []⟩]) (.seq (.ops [⟨0, (some 25), none, .mov (.t 2), []⟩, ⟨1, (some 26), none, .bin .gtr (.t 25) (.c (.int .i64 65535)), []⟩]) (.ite (.t 26) (.ops [⟨0, (some 27), none, .mov (.t 2), []⟩, ⟨1, (some 28), none, .bin .xor (.t 27) (.c (.int .i64 65581)), []⟩, ⟨2, (some 2), none, .mov (.t 28), []⟩]) .skip))))))) (.ops [⟨0, (some 29), none, .bin .add (.t 6) (.c (.int .i64 1)), []⟩, ⟨1, (some 6), none, .mov (.t 29), []⟩]))))))) (.seq (.ops [⟨0, (some 30), none, .mov (.t 1), []⟩, ⟨1, (some 0), none, .mov (.t 30), []⟩]) .ret))))
attribute [irreducible] c_gf16_New
theorem run_gf16_New {args : List Value} {w : World} {K : Value → World → Prop} (hn : args.length ≤ 31) (h : WP Try.prog c_gf16_New (endQ [.t 0] K) (initT args) w) : CallV Try.prog 67 args w K :=
  call_of follows Try.func67 (by kernel_rfl) (by kernel_rfl) hn h
end Go.Proofs.Ytbaljbadlfopgaa.Fw
namespace Go.Proofs.Ytbaljbadlfopgaa.Fw
open Go Go.Fw
/-- The tables of the field of 65536 elements: the powers, the logarithms behind. -/
def tabQ (T : List Nat) : List Value := T.map (fun (n : Nat) => Value.int .u16 (n : Int))
theorem tabQ_get {T : List Nat} {i n : Nat} (hi : i < (tabQ T).length) (h : T[i]? = some n) : (tabQ T)[i] = .int .u16 (n : Int) := by
  have h2 : (tabQ T)[i]? = some (.int .u16 (n : Int)) := by unfold tabQ; rw [List.getElem?_map, h]; rfl
  rw [List.getElem?_eq_getElem hi] at h2
  exact Option.some.inj h2
def Tab16 (w : World) (p : Value) : Prop := ∃ b T, p = .pointer (some ⟨b, 0, none⟩) ∧ Row w b (tabQ T) ∧ T.length = 131071 ∧ (∀ j, j < 65535 → T[j]? = some (gq j).toNat) ∧ ∀ j, j < 65535 → T[65535 + (gq j).toNat]? = some j
theorem Tab16.up {w w' : World} {p : Value} (h : Tab16 w p) (hb : RowKit.Below w.heap.size w w') : Tab16 w' p := by
  obtain ⟨b, T, h1, h2, h3⟩ := h
  exact ⟨b, T, h1, h2.up hb, h3⟩
theorem gf16_New_spec (w : World) : CallV Try.prog 67 [] w fun v w' => Tab16 w' v ∧ RowKit.Below w.heap.size w w' := by
  refine run_gf16_New (by simp) ?_
  have hz : ∀ cs : List Value, fillL cs [] = some cs := fun cs => rfl
  unfold c_gf16_New
  have hZ : List.replicate 131071 (Value.int .u16 0) = tabQ (List.replicate 131071 0) := by unfold tabQ; rw [List.map_replicate]; rfl
  have hl0 : (List.replicate 131071 0 : List Nat).length = 131071 := List.length_replicate ..
  rw [hZ]
  generalize (List.replicate 131071 0 : List Nat) = T0 at hl0
  simp only [WS, List.getElem_cons_zero, List.getElem_cons_succ, Option.isNone_some, Option.isNone_none, List.getD_cons_zero, List.getD_cons_succ, I.at, atL, atO, atP, evp, evs, retV, ↓reduceIte, Nat.reduceEqDiff, reduceCtorEq, X_bld, hz]
  refine X_box ?_
  intro b w1 hr hb hB
  have hr : Row w1 b (tabQ T0) := hr
  simp only [WS, List.getElem_cons_zero, List.getElem_cons_succ, Option.isNone_some, Option.isNone_none, List.getD_cons_zero, List.getD_cons_succ, I.at, atL, atO, atP, evp, evs, retV, ↓reduceIte, Nat.reduceEqDiff, reduceCtorEq]
  refine loop_of (fun t w' => ∃ (i : Nat) (T : List Nat), i ≤ 65535 ∧ t 1 = .pointer (some ⟨b, 0, none⟩) ∧ t 2 = .int .i64 ((gq i).toNat : Int) ∧ t 6 = .int .i64 (i : Int) ∧ Row w' b (tabQ T) ∧ RowKit.Below w.heap.size w w' ∧ T.length = 131071 ∧
    (∀ j, j < i → T[j]? = some (gq j).toNat) ∧ ∀ j, j < i → T[65535 + (gq j).toNat]? = some j)
    (fun t _ => (65535 - toI (t 6)).toNat) ⟨0, T0, by omega, rfl, rfl, rfl, hr, hB, hl0, fun j h => absurd h (by omega), fun j h => absurd h (by omega)⟩ ?_
  clear hr hB
  rintro t w2 ⟨i, T, hi, h1, h2, h6, hr, hB, hT, hp, hl⟩
  by_cases hlt : i < 65535
  · have hg := (gq i).isLt
    have hlen : (tabQ T).length = 131071 := by unfold tabQ; rw [List.length_map]; exact hT
    have u1 : IntKind.u16.wrap ((gq i).toNat : Int) = ((gq i).toNat : Int) := wrap_u16 _ hg
    have u2 : IntKind.u16.wrap (i : Int) = (i : Int) := wrap_u16 _ (by omega)
    have s1 : shlV .i64 ((gq i).toNat : Int) 1 = ((2 * (gq i).toNat : Nat) : Int) := by
      rw [show (1 : Int) = ((1 : Nat) : Int) from rfl, shl_nat fits_i64 _ 1 (by decide) (by omega), Nat.shiftLeft_eq]
      congr 1; omega
    have x1 : bitsOp .xor .i64 ((2 * (gq i).toNat : Nat) : Int) 65581 = (((2 * (gq i).toNat) ^^^ 65581 : Nat) : Int) := bits_xor fits_i64 (by omega) (by decide)
    have n1 : (gq (i + 1)).toNat = if 65535 < 2 * (gq i).toNat then (2 * (gq i).toNat) ^^^ 65581 else 2 * (gq i).toNat := mxb16 (gq i)
    have e1 : tabQ ((T.set i (gq i).toNat).set (65535 + (gq i).toNat) i) = ((tabQ T).set i (.int .u16 ((gq i).toNat : Int))).set (65535 + (gq i).toNat) (.int .u16 (i : Int)) := by unfold tabQ; rw [List.map_set, List.map_set]
    simp (maxSteps := 1000000) (disch := omega) only [WS, List.getElem_cons_zero, List.getElem_cons_succ, Option.isNone_some, Option.isNone_none, List.getD_cons_zero, List.getD_cons_succ, I.at, atL, atO, atP, evp, evs, retV, ↓reduceIte, Nat.reduceEqDiff, reduceCtorEq, AS, h1, h2, h6, u1]
    rw [X_ixa (show i < 65535 by omega)]
    simp (maxSteps := 1000000) (disch := omega) only [WS, List.getElem_cons_zero, List.getElem_cons_succ, Option.isNone_some, Option.isNone_none, List.getD_cons_zero, List.getD_cons_succ, I.at, atL, atO, atP, evp, evs, retV, ↓reduceIte, Nat.reduceEqDiff, reduceCtorEq, AS, h1, h2, h6, Nat.mul_one]
    refine Row.Xst (o := i) hr (by omega) rfl fun w3 hr3 hg3 => ?_
    have B3 := Below.row hB hb hg3
    simp (maxSteps := 1000000) (disch := omega) only [WS, List.getElem_cons_zero, List.getElem_cons_succ, Option.isNone_some, Option.isNone_none, List.getD_cons_zero, List.getD_cons_succ, I.at, atL, atO, atP, evp, evs, retV, ↓reduceIte, Nat.reduceEqDiff, reduceCtorEq, AS, h1, h2, h6, u2]
    rw [X_ixa (show (gq i).toNat < 65536 from hg)]
    simp (maxSteps := 1000000) (disch := omega) only [WS, List.getElem_cons_zero, List.getElem_cons_succ, Option.isNone_some, Option.isNone_none, List.getD_cons_zero, List.getD_cons_succ, I.at, atL, atO, atP, evp, evs, retV, ↓reduceIte, Nat.reduceEqDiff, reduceCtorEq, AS, h1, h2, h6, Nat.mul_one]
    refine Row.Xst (o := 65535 + (gq i).toNat) hr3 (by rw [List.length_set]; omega) rfl fun w4 hr4 hg4 => ?_
    have B4 := Below.row B3 hb hg4
    rw [← e1] at hr4
    have fin : ∃ T' : List Nat, Row w4 b (tabQ T') ∧ T'.length = 131071 ∧ (∀ j, j < i + 1 → T'[j]? = some (gq j).toNat) ∧ ∀ j, j < i + 1 → T'[65535 + (gq j).toNat]? = some j := by
      refine ⟨_, hr4, by rw [List.length_set, List.length_set]; exact hT, fun j hj => ?_, fun j hj => ?_⟩
      · rw [List.getElem?_set_ne (by omega)]
        by_cases e : j = i
        · subst e; rw [List.getElem?_set_self (by omega)]
        · rw [List.getElem?_set_ne (by omega)]; exact hp j (by omega)
      · by_cases e : j = i
        · subst e; rw [List.getElem?_set_self (by rw [List.length_set]; omega)]
        · rw [List.getElem?_set_ne (fun h => e (gq_inj (by omega) (by omega) (BitVec.eq_of_toNat_eq (by omega)))), List.getElem?_set_ne (by omega)]
          exact hl j (by omega)
    clear hr4 hr3 hr B3 e1 hg3 hg4
    obtain ⟨T', hr', hT', hp', hl'⟩ := fin
    by_cases hbig : 65535 < 2 * (gq i).toNat
    · rw [if_pos hbig] at n1
      simp (maxSteps := 1000000) (disch := omega) only [WS, List.getElem_cons_zero, List.getElem_cons_succ, Option.isNone_some, Option.isNone_none, List.getD_cons_zero, List.getD_cons_succ, I.at, atL, atO, atP, evp, evs, retV, ↓reduceIte, Nat.reduceEqDiff, reduceCtorEq, AS, h1, h2, h6, X_shl, s1, x1, show (0 : Int) ≤ 1 from by decide]
      exact ⟨⟨i + 1, T', by omega, by rw [n1], rfl, hr', B4, hT', hp', hl'⟩, by omega⟩
    · rw [if_neg hbig] at n1
      simp (maxSteps := 1000000) (disch := omega) only [WS, List.getElem_cons_zero, List.getElem_cons_succ, Option.isNone_some, Option.isNone_none, List.getD_cons_zero, List.getD_cons_succ, I.at, atL, atO, atP, evp, evs, retV, ↓reduceIte, Nat.reduceEqDiff, reduceCtorEq, AS, h1, h2, h6, X_shl, s1, show (0 : Int) ≤ 1 from by decide]
      exact ⟨⟨i + 1, T', by omega, by rw [n1], rfl, hr', B4, hT', hp', hl'⟩, by omega⟩
  · have : i = 65535 := by omega
    subst this
    simp (maxSteps := 1000000) (disch := omega) only [WS, List.getElem_cons_zero, List.getElem_cons_succ, Option.isNone_some, Option.isNone_none, List.getD_cons_zero, List.getD_cons_succ, I.at, atL, atO, atP, evp, evs, retV, ↓reduceIte, Nat.reduceEqDiff, reduceCtorEq, AS, h1, h2, h6, show decide (((65535 : Nat) : Int) < 65535) = false from rfl]
    exact ⟨⟨b, T, rfl, hr, hT, hp, hl⟩, hB⟩
theorem tm_q (x : Nat) : ((x : Nat) : Int).tmod 65535 = ((x % 65535 : Nat) : Int) := (Int.ofNat_tmod x 65535).symm
theorem el_zero16 (a : El 16) : ((a.v.toNat : Nat) : Int) = 0 ↔ a = 0 := by
  constructor
  · intro h
    exact El.ext (BitVec.eq_of_toNat_eq (by rw [show a.v.toNat = 0 by omega]; rfl))
  · rintro rfl; rfl
end Go.Proofs.Ytbaljbadlfopgaa.Fw

/- The Walsh-Hadamard transform, over the integers; sums over i xor j. Plain maths. -/
set_option linter.unusedVariables false
set_option linter.unusedSimpArgs false
namespace Go.Fw
/-- The transform of 2^r numbers, by halves. -/
def hw : Nat → (Nat → Int) → Nat → Int
  | 0, f, i => f i
  | r + 1, f, i => if i < 2 ^ r then hw r f i + hw r (fun j => f (2 ^ r + j)) i else hw r f (i - 2 ^ r) - hw r (fun j => f (2 ^ r + j)) (i - 2 ^ r)
theorem hw_congr : ∀ (r : Nat) {f g : Nat → Int} {i : Nat}, i < 2 ^ r → (∀ j, j < 2 ^ r → f j = g j) → hw r f i = hw r g i
  | 0, f, g, i, hi, h => h i hi
  | r + 1, f, g, i, hi, h => by
    have hp : 2 ^ (r + 1) = 2 * 2 ^ r := by rw [Nat.pow_succ, Nat.mul_comm]
    unfold hw
    by_cases hl : i < 2 ^ r
    · rw [if_pos hl, if_pos hl, hw_congr r hl (fun j hj => h j (by omega)), hw_congr r hl (fun j hj => h (2 ^ r + j) (by omega))]
    · rw [if_neg hl, if_neg hl, hw_congr r (show i - 2 ^ r < 2 ^ r by omega) (fun j hj => h j (by omega)), hw_congr r (show i - 2 ^ r < 2 ^ r by omega) (fun j hj => h (2 ^ r + j) (by omega))]
theorem hw_add : ∀ (r : Nat) (f g : Nat → Int) (i : Nat), hw r (fun j => f j + g j) i = hw r f i + hw r g i
  | 0, f, g, i => rfl
  | r + 1, f, g, i => by
    unfold hw
    rw [hw_add r f g, hw_add r (fun j => f (2 ^ r + j)) (fun j => g (2 ^ r + j)), hw_add r f g, hw_add r (fun j => f (2 ^ r + j)) (fun j => g (2 ^ r + j))]
    split <;> omega
theorem hw_sub : ∀ (r : Nat) (f g : Nat → Int) (i : Nat), hw r (fun j => f j - g j) i = hw r f i - hw r g i
  | 0, f, g, i => rfl
  | r + 1, f, g, i => by
    unfold hw
    rw [hw_sub r f g, hw_sub r (fun j => f (2 ^ r + j)) (fun j => g (2 ^ r + j)), hw_sub r f g, hw_sub r (fun j => f (2 ^ r + j)) (fun j => g (2 ^ r + j))]
    split <;> omega
/-- Twice is 2^r times. -/
theorem hw_hw : ∀ (r : Nat) (f : Nat → Int) (i : Nat), i < 2 ^ r → hw r (hw r f) i = 2 ^ r * f i
  | 0, f, i, hi => by show f i = _; rw [Int.pow_zero, Int.one_mul]
  | r + 1, f, i, hi => by
    have hp : 2 ^ (r + 1) = 2 * 2 ^ r := by rw [Nat.pow_succ, Nat.mul_comm]
    have lo : ∀ j, j < 2 ^ r → hw (r + 1) f j = hw r f j + hw r (fun j => f (2 ^ r + j)) j := fun j hj => by
      show (if j < 2 ^ r then _ else _) = _; rw [if_pos hj]
    have hi2 : ∀ j, j < 2 ^ r → hw (r + 1) f (2 ^ r + j) = hw r f j - hw r (fun j => f (2 ^ r + j)) j := fun j hj => by
      show (if 2 ^ r + j < 2 ^ r then _ else _) = _; rw [if_neg (by omega), Nat.add_sub_cancel_left]
    have c1 : ∀ j, j < 2 ^ r → hw r (hw (r + 1) f) j = 2 ^ r * f j + 2 ^ r * f (2 ^ r + j) := fun j hj => by
      rw [hw_congr r hj lo, hw_add, hw_hw r f j hj, hw_hw r _ j hj]
    have c2 : ∀ j, j < 2 ^ r → hw r (fun j => hw (r + 1) f (2 ^ r + j)) j = 2 ^ r * f j - 2 ^ r * f (2 ^ r + j) := fun j hj => by
      rw [hw_congr r hj hi2, hw_sub, hw_hw r f j hj, hw_hw r _ j hj]
    show (if i < 2 ^ r then hw r (hw (r + 1) f) i + hw r (fun j => hw (r + 1) f (2 ^ r + j)) i else hw r (hw (r + 1) f) (i - 2 ^ r) - hw r (fun j => hw (r + 1) f (2 ^ r + j)) (i - 2 ^ r)) = _
    rw [Int.pow_succ, Int.mul_comm (2 ^ r) 2, Int.mul_assoc]
    by_cases hl : i < 2 ^ r
    · rw [if_pos hl, c1 i hl, c2 i hl]; omega
    · rw [if_neg hl, c1 _ (by omega), c2 _ (by omega), show 2 ^ r + (i - 2 ^ r) = i by omega]; omega
/-- The convolution over xor, by halves. -/
def cv : Nat → (Nat → Int) → (Nat → Int) → Nat → Int
  | 0, f, g, i => f i * g i
  | r + 1, f, g, i => if i < 2 ^ r then cv r f g i + cv r (fun j => f (2 ^ r + j)) (fun j => g (2 ^ r + j)) i else cv r f (fun j => g (2 ^ r + j)) (i - 2 ^ r) + cv r (fun j => f (2 ^ r + j)) g (i - 2 ^ r)
theorem hw_cv : ∀ (r : Nat) (f g : Nat → Int) (i : Nat), i < 2 ^ r → hw r (cv r f g) i = hw r f i * hw r g i
  | 0, f, g, i, hi => rfl
  | r + 1, f, g, i, hi => by
    have hp : 2 ^ (r + 1) = 2 * 2 ^ r := by rw [Nat.pow_succ, Nat.mul_comm]
    have lo : ∀ j, j < 2 ^ r → cv (r + 1) f g j = cv r f g j + cv r (fun j => f (2 ^ r + j)) (fun j => g (2 ^ r + j)) j := fun j hj => by
      show (if j < 2 ^ r then _ else _) = _; rw [if_pos hj]
    have hi2 : ∀ j, j < 2 ^ r → cv (r + 1) f g (2 ^ r + j) = cv r f (fun j => g (2 ^ r + j)) j + cv r (fun j => f (2 ^ r + j)) g j := fun j hj => by
      show (if 2 ^ r + j < 2 ^ r then _ else _) = _; rw [if_neg (by omega), Nat.add_sub_cancel_left]
    have c1 : ∀ j, j < 2 ^ r → hw r (cv (r + 1) f g) j = hw r f j * hw r g j + hw r (fun j => f (2 ^ r + j)) j * hw r (fun j => g (2 ^ r + j)) j := fun j hj => by
      rw [hw_congr r hj lo, hw_add, hw_cv r f g j hj, hw_cv r _ _ j hj]
    have c2 : ∀ j, j < 2 ^ r → hw r (fun j => cv (r + 1) f g (2 ^ r + j)) j = hw r f j * hw r (fun j => g (2 ^ r + j)) j + hw r (fun j => f (2 ^ r + j)) j * hw r g j := fun j hj => by
      rw [hw_congr r hj hi2, hw_add, hw_cv r f _ j hj, hw_cv r _ g j hj]
    show (if i < 2 ^ r then hw r (cv (r + 1) f g) i + hw r (fun j => cv (r + 1) f g (2 ^ r + j)) i else hw r (cv (r + 1) f g) (i - 2 ^ r) - hw r (fun j => cv (r + 1) f g (2 ^ r + j)) (i - 2 ^ r)) = (if i < 2 ^ r then _ else _) * (if i < 2 ^ r then _ else _)
    by_cases hl : i < 2 ^ r
    · rw [if_pos hl, if_pos hl, if_pos hl, c1 i hl, c2 i hl, Int.add_mul, Int.mul_add, Int.mul_add]; omega
    · rw [if_neg hl, if_neg hl, if_neg hl, c1 _ (by omega), c2 _ (by omega), Int.sub_mul, Int.mul_sub, Int.mul_sub]; omega
/-- Sums of the first. -/
def nsum (f : Nat → Nat) : Nat → Nat
  | 0 => 0
  | m + 1 => nsum f m + f m
theorem nsum_congr {f g : Nat → Nat} : ∀ m, (∀ i, i < m → f i = g i) → nsum f m = nsum g m
  | 0, _ => rfl
  | m + 1, h => by simp only [nsum, nsum_congr m (fun i hi => h i (by omega)), h m (by omega)]
theorem nsum_append (f : Nat → Nat) (a : Nat) : ∀ b, nsum f (a + b) = nsum f a + nsum (fun i => f (a + i)) b
  | 0 => rfl
  | b + 1 => by show nsum f (a + b) + f (a + b) = _ + (nsum _ b + f (a + b)); rw [nsum_append f a b, Nat.add_assoc]
theorem xor_hi {r i j : Nat} (hi : i < 2 ^ r) (hj : j < 2 ^ r) : i ^^^ (2 ^ r + j) = 2 ^ r + (i ^^^ j) ∧ (2 ^ r + i) ^^^ j = 2 ^ r + (i ^^^ j) ∧ (2 ^ r + i) ^^^ (2 ^ r + j) = i ^^^ j := by
  have h1 : ∀ a, a < 2 ^ r → 2 ^ r + a = 2 ^ r ^^^ a := fun a ha => by
    have h3 := Nat.two_pow_add_eq_or_of_lt ha 1
    rw [Nat.mul_one] at h3
    rw [h3]
    refine Nat.eq_of_testBit_eq fun t => ?_
    rw [Nat.testBit_or, Nat.testBit_xor, Nat.testBit_two_pow]
    by_cases ht : r = t
    · subst ht; rw [Nat.testBit_lt_two_pow ha]; simp
    · simp [ht]
  have h2 := Nat.xor_lt_two_pow hi hj
  rw [h1 i hi, h1 j hj, h1 _ h2]
  refine ⟨by ac_rfl, by ac_rfl, ?_⟩
  rw [show 2 ^ r ^^^ i ^^^ (2 ^ r ^^^ j) = (2 ^ r ^^^ 2 ^ r) ^^^ (i ^^^ j) by ac_rfl, Nat.xor_self, Nat.zero_xor]
theorem cv_nsum : ∀ (r : Nat) (f g : Nat → Nat) (i : Nat), i < 2 ^ r → cv r (fun j => (f j : Int)) (fun j => (g j : Int)) i = ((nsum (fun j => f j * g (i ^^^ j)) (2 ^ r) : Nat) : Int)
  | 0, f, g, i, hi => by
    have : i = 0 := by (simp at hi; exact hi)
    subst this
    show (f 0 : Int) * (g 0 : Int) = ((0 + f 0 * g (0 ^^^ 0) : Nat) : Int)
    rw [Nat.zero_add, Nat.xor_self]; simp
  | r + 1, f, g, i, hi => by
    have hp : 2 ^ (r + 1) = 2 ^ r + 2 ^ r := by rw [Nat.pow_succ, Nat.mul_two]
    rw [hp, nsum_append]
    show (if i < 2 ^ r then _ else _) = _
    by_cases hl : i < 2 ^ r
    · rw [if_pos hl, cv_nsum r f g i hl, cv_nsum r (fun j => f (2 ^ r + j)) (fun j => g (2 ^ r + j)) i hl]
      rw [nsum_congr (f := fun k => f (2 ^ r + k) * g (i ^^^ (2 ^ r + k))) (g := fun j => f (2 ^ r + j) * g (2 ^ r + (i ^^^ j))) _ fun j hj => by rw [(xor_hi hl hj).1]]
      rw [Int.natCast_add]
    · obtain ⟨k, rfl⟩ : ∃ k, i = 2 ^ r + k := ⟨i - 2 ^ r, by omega⟩
      have hk : k < 2 ^ r := by omega
      rw [if_neg hl, Nat.add_sub_cancel_left, cv_nsum r f (fun j => g (2 ^ r + j)) k hk, cv_nsum r (fun j => f (2 ^ r + j)) g k hk]
      rw [nsum_congr (f := fun j => f j * g ((2 ^ r + k) ^^^ j)) (g := fun j => f j * g (2 ^ r + (k ^^^ j))) _ fun j hj => by rw [(xor_hi hk hj).2.1]]
      rw [nsum_congr (f := fun j => f (2 ^ r + j) * g ((2 ^ r + k) ^^^ (2 ^ r + j))) (g := fun j => f (2 ^ r + j) * g (k ^^^ j)) _ fun j hj => by rw [(xor_hi hk hj).2.2]]
      rw [Int.natCast_add]
/-- As the rounds go: the blocks of 2^l numbers are turned. -/
def lev (l : Nat) (f : Nat → Int) (x : Nat) : Int := hw l (fun j => f (x / 2 ^ l * 2 ^ l + j)) (x % 2 ^ l)
theorem lev_zero (f : Nat → Int) (x : Nat) : lev 0 f x = f x := by
  show f (x / 2 ^ 0 * 2 ^ 0 + x % 2 ^ 0) = f x
  congr 1; simp [Nat.mod_one]
theorem lev_at {l b y : Nat} (f : Nat → Int) (hb : b % 2 ^ l = 0) (hy : y < 2 ^ l) : lev l f (b + y) = hw l (fun j => f (b + j)) y := by
  unfold lev
  have h0 := Nat.two_pow_pos l
  obtain ⟨q, rfl⟩ := Nat.dvd_of_mod_eq_zero hb
  rw [Nat.mul_add_div h0, Nat.div_eq_of_lt hy, Nat.add_zero, Nat.mul_add_mod, Nat.mod_eq_of_lt hy, Nat.mul_comm q]
theorem lev_full {r x : Nat} (f : Nat → Int) (hx : x < 2 ^ r) : lev r f x = hw r f x := by
  have := lev_at (b := 0) f (Nat.zero_mod _) hx
  rw [Nat.zero_add] at this
  rw [this]
  congr 1
  funext j; rw [Nat.zero_add]
theorem lev_step {l b y : Nat} (f : Nat → Int) (hb : b % 2 ^ (l + 1) = 0) (hy : y < 2 ^ l) :
    lev (l + 1) f (b + y) = lev l f (b + y) + lev l f (b + y + 2 ^ l) ∧ lev (l + 1) f (b + y + 2 ^ l) = lev l f (b + y) - lev l f (b + y + 2 ^ l) := by
  have h0 := Nat.two_pow_pos l
  have hp : 2 ^ (l + 1) = 2 * 2 ^ l := by rw [Nat.pow_succ, Nat.mul_comm]
  have hbl : b % 2 ^ l = 0 := Nat.mod_eq_zero_of_dvd (Nat.dvd_trans ⟨2, by rw [hp, Nat.mul_comm]⟩ (Nat.dvd_of_mod_eq_zero hb))
  have e : b + y + 2 ^ l = b + (2 ^ l + y) := by omega
  have e2 : b + (2 ^ l + y) = (b + 2 ^ l) + y := by omega
  have hb2 : (b + 2 ^ l) % 2 ^ l = 0 := by rw [Nat.add_mod_right]; exact hbl
  rw [e, lev_at f hb (show y < 2 ^ (l + 1) by omega), lev_at f hb (show 2 ^ l + y < 2 ^ (l + 1) by omega), lev_at f hbl hy, e2, lev_at f hb2 hy]
  have hh : (fun j => f (b + 2 ^ l + j)) = fun j => f (b + (2 ^ l + j)) := funext fun j => by rw [Nat.add_assoc]
  rw [hh]
  constructor
  · show (if y < 2 ^ l then _ else _) = _; rw [if_pos hy]
  · show (if 2 ^ l + y < 2 ^ l then _ else _) = _; rw [if_neg (by omega), Nat.add_sub_cancel_left]
/-- A number as it is kept: modulo 65535. -/
def md (z : Int) : Nat := (z % 65535).toNat
theorem md_lt (z : Int) : md z < 65535 := by unfold md; omega
theorem md_v (z : Int) : (md z : Int) = z % 65535 := by unfold md; omega
theorem md_add (a b : Int) : (md a + md b) % 65535 = md (a + b) := by have := md_v a; have := md_v b; have := md_v (a + b); omega
theorem md_sub (a b : Int) : (md a + 65535 - md b) % 65535 = md (a - b) := by have := md_v a; have := md_v b; have := md_v (a - b); have := md_lt b; omega
theorem md_mul (a b : Int) : (md a * md b) % 65535 = md (a * b) := by
  have h := md_v (a * b)
  rw [Int.mul_emod, ← md_v a, ← md_v b] at h
  have : (((md a * md b) % 65535 : Nat) : Int) = (md (a * b) : Int) := by rw [h]; simp
  omega
theorem md_nat (n : Nat) : md (n : Int) = n % 65535 := by have := md_v n; omega
end Go.Fw
