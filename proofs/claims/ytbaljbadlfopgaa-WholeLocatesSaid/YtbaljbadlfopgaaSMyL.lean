import Derived.Test.YtbaljbadlfopgaaGfML
import Derived.Test.YtbaljbadlfopgaaGfWhL
import Derived.Test.YtbaljbadlfopgaaProg
import Derived.Test.YtbaljbadlfopgaaFwTL
set_option linter.all false
/- Lists in the basis X_j as polynomials; the derivative in that basis; s_i as a product over its zeros. Plain maths. -/
set_option linter.unusedVariables false
namespace Go.Fw
theorem pow_le16' {k : Nat} (h : k ≤ 16) : 2 ^ k ≤ 65536 := by have : 2 ^ k ≤ 2 ^ 16 := Nat.pow_le_pow_right (by omega) h; omega
theorem pow_add_xor {i m : Nat} (h : m < 2 ^ i) : 2 ^ i + m = 2 ^ i ^^^ m := by
  refine Nat.eq_of_testBit_eq fun t => ?_
  rw [Nat.testBit_xor, Nat.testBit_two_pow]
  by_cases ht : t = i
  · subst ht
    rw [Nat.testBit_two_pow_add_eq, Nat.testBit_lt_two_pow h]
    simp
  · rcases Nat.lt_or_gt_of_ne ht with hl | hg
    · rw [Nat.testBit_two_pow_add_gt hl]
      simp [show i ≠ t by omega]
    · have h1 : 2 ^ i + m < 2 ^ t := Nat.lt_of_lt_of_le (show 2 ^ i + m < 2 ^ (i + 1) by rw [Nat.pow_succ]; omega) (Nat.pow_le_pow_right (by omega) hg)
      rw [Nat.testBit_lt_two_pow h1, Nat.testBit_lt_two_pow (Nat.lt_of_lt_of_le h (Nat.pow_le_pow_right (by omega) (by omega)))]
      simp [show i ≠ t by omega]
theorem wel_pow_add {i m : Nat} (h : m < 2 ^ i) : wel (2 ^ i + m) = wel (2 ^ i) + wel m := by rw [pow_add_xor h, wel_xor]
/-! The derivative. -/
end Go.Fw

set_option linter.unusedVariables false
set_option linter.unusedSimpArgs false
set_option maxRecDepth 100000
set_option maxHeartbeats 1000000
namespace Go.Proofs.Ytbaljbadlfopgaa.Fw
open Go Go.Fw Go.Proofs
attribute [local irreducible] stepI
def c_walsh_turn : C := .seq (.ops [⟨0, (some 2), none, .mov (.c (.int .i64 1)), []⟩]) (.block 0 (.loop (.seq (.seq (.ops [⟨0, (some 7), none, .mov (.t 2), []⟩, ⟨1, (some 8), none, .mov (.t 0), []⟩, ⟨2, (some 9), none, .len (.t 8), []⟩, ⟨3, (some 10), none, .bin .lss (.t 7) (.t 9), []⟩]) (.ite (.t 10) .skip (.exit 0))) (.seq (.block 1 (.seq (.ops [⟨0, (some 3), none, .mov (.c (.int .i64 0)), []⟩]) (.block 2 (.loop (.seq (.seq (.ops [⟨0, (some 13), none, .mov (.t 3), []⟩, ⟨1, (some 14), none, .mov (.t 0), []⟩, ⟨2, (some 15), none, .len (.t 14), []⟩, ⟨3, (some 16), none, .bin .lss (.t 13) (.t 15), []⟩]) (.ite (.t 16) .skip (.exit 2))) (.seq (.block 3 (.seq (.ops [⟨0, (some 21), none, .mov (.t 3), []⟩, ⟨1, (some 4), none, .mov (.t 21), []⟩]) (.block 4 (.loop (.seq (.seq (.ops [⟨0, (some 22), none, .mov (.t 4), []⟩, ⟨1, (some 23), none, .mov (.t 3), []⟩, ⟨2, (some 24), none, .mov (.t 2), []⟩, ⟨3, (some 25), none, .bin .add (.t 23) (.t 24), []⟩, ⟨4, (some 26), none, .bin .lss (.t 22) (.t 25), []⟩]) (.ite (.t 26) .skip (.exit 4))) (.seq (.block 5 (.seq (.dops [⟨0, (some 29), none, .mov (.t 0), []⟩, ⟨1, (some 30), none, .mov (.t 4), []⟩, ⟨2, (some 31), none, .ixs 1 (.t 29) (.t 30), []⟩, ⟨3, (some 32), none, .ld (.t 31), []⟩, ⟨4, (some 33), none, .cnv .i64 (.t 32), []⟩, ⟨5, (some 34), none, .mov (.t 0), []⟩, ⟨6, (some 35), none, .mov (.t 4), []⟩, ⟨7, (some 36), none, .mov (.t 2), []⟩, ⟨8, (some 37), none, .bin .add (.t 35) (.t 36), []⟩, ⟨9, (some 38), none, .ixs 1 (.t 34) (.t 37), []⟩, ⟨10, (some 39), none, .ld (.t 38), []⟩, ⟨11, (some 40), none, .cnv .i64 (.t 39), []⟩, ⟨12, (some 5), none, .mov (.t 33), []⟩, ⟨13, (some 6), none, .mov (.t 40), []⟩]) (.seq (.ops [⟨0, (some 41), none, .mov (.t 0), []⟩, ⟨1, (some 42), none, .mov (.t 4), []⟩, ⟨2, (some 43), none, .mov (.t 5), []⟩, ⟨3, (some 44), none, .mov (.t 6), []⟩, ⟨4, (some 45), none, .bin .add (.t 43) (.t 44), []⟩, ⟨5, (some 46), none, .bin .rem (.t 45) (.c (.int .i64 65535)), []⟩, ⟨6, (some 47), none, .cnv .u16 (.t 46), []⟩, ⟨7, (some 48), none, .ixs 1 (.t 41) (.t 42), []⟩, ⟨8, none, none, .st (.t 48) (.t 47), []⟩]) (.ops [⟨0, (some 49), none, .mov (.t 0), []⟩, ⟨1, (some 50), none, .mov (.t 4), []⟩, ⟨2, (some 51), none, .mov (.t 2), []⟩, ⟨3, (some 52), none, .bin .add (.t 50) (.t 51), []⟩, ⟨4, (some 53), none, .mov (.t 5), []⟩, ⟨5, (some 54), none, .bin .add (.t 53) (.c (.int .i64 65535)), []⟩, ⟨6, (some 55), none, .mov (.t 6), []⟩, ⟨7, (some 56), none, .bin .sub (.t 54) (.t 55), []⟩, ⟨8, (some 57), none, .bin .rem (.t 56) (.c (.int .i64 65535)), []⟩, ⟨9, (some 58), none, .cnv .u16 (.t 57), []⟩, ⟨10, (some 59), none, .ixs 1 (.t 49) (.t 52), []⟩, ⟨11, none, none, .st (.t 59) (.t 58), []⟩])))) (.ops [⟨0, (some 27), none, .mov (.t 4), []⟩, ⟨1, (some 28), none, .bin .add (.t 27) (.c (.int .i64 1)), []⟩, ⟨2, (some 4), none, .mov (.t 28), []⟩]))))))) (.ops [⟨0, (some 17), none, .mov (.t 3), []⟩, ⟨1, (some 18), none, .mov (.t 2), []⟩, ⟨2, (some 19), none, .bin .mul (.c (.int .i64 2)) (.t 18), []⟩, ⟨3, (some 20), none, .bin .add (.t 17) (.t 19), []⟩, ⟨4, (some 3), none, .mov (.t 20), []⟩]))))))) (.ops [⟨0, (some 11), none, .mov (.t 2), []⟩, ⟨1, (some 12), none, .bin .mul (.t 11) (.c (.int .i64 2)), []⟩, ⟨2, (some 2), none, .mov (.t 12), []⟩])))))
attribute [irreducible] c_walsh_turn
theorem run_walsh_turn {args : List Value} {w : World} {K : Value → World → Prop} (hn : args.length ≤ 60) (h : WP Try.prog c_walsh_turn (endQ [] K) (initT args) w) : CallV Try.prog 140 args w K :=
  call_of follows Try.func140 (by kernel_rfl) (by kernel_rfl) hn h
end Go.Proofs.Ytbaljbadlfopgaa.Fw
namespace Go.Proofs.Ytbaljbadlfopgaa.Fw
open Go Go.Fw
/-- The number n as an element of a list. -/
def en (n : Nat) : El 16 := ⟨BitVec.ofNat 16 n⟩
theorem en_v {n : Nat} (h : n < 65536) : (en n).v.toNat = n := by
  show (BitVec.ofNat 16 n).toNat = n
  rw [BitVec.toNat_ofNat]; exact Nat.mod_eq_of_lt h
theorem en_c {n : Nat} (h : n < 65536) : Value.int .u16 (n : Int) = Cell.v (en n) := by rw [cell_e16, en_v h]
theorem mult_le {D a N : Nat} (ha : a % D = 0) (hN : N % D = 0) (h : a < N) : a + D ≤ N := by
  obtain ⟨q, rfl⟩ := Nat.dvd_of_mod_eq_zero ha
  obtain ⟨p, rfl⟩ := Nat.dvd_of_mod_eq_zero hN
  have : q < p := Nat.lt_of_mul_lt_mul_left h
  have := Nat.mul_le_mul_left D (show q + 1 ≤ p from this)
  rw [Nat.mul_add, Nat.mul_one] at this
  exact this
theorem walsh_turn_spec {M : List (El 16) → World → Prop} {s : Value} (h : Wr M s) (w : World) (l : List (El 16)) (r : Nat) (f : Nat → Int) (hm : M l w) (hl : l.length = 2 ^ r) (hr : r ≤ 16) (hv : ∀ i (hi : i < l.length), l[i].v.toNat = md (f i)) :
    CallV Try.prog 140 [s] w fun v w' => v = .tuple #[] ∧ ∃ l', M l' w' ∧ l'.length = 2 ^ r ∧ ∀ i (hi : i < l'.length), l'[i].v.toNat = md (hw r f i) := by
  refine run_walsh_turn (by simp) ?_
  simp only [c_walsh_turn, WS, List.getElem_cons_zero, List.getElem_cons_succ, Option.isNone_some, Option.isNone_none, List.getD_cons_zero, List.getD_cons_succ, I.at, atL, atO, atP, evp, evs, retV, ↓reduceIte, Nat.reduceEqDiff, reduceCtorEq]
  have hr16 := pow_le16' hr
  refine loop_of (fun t w' => t 0 = s ∧ ∃ (a : Nat) (v : List (El 16)), t 2 = .int .i64 ((2 ^ a : Nat) : Int) ∧ a ≤ r ∧ M v w' ∧ v.length = 2 ^ r ∧ ∀ i (hi : i < v.length), v[i].v.toNat = md (lev a f i)) (fun t _ => 2 ^ r - (toI (t 2)).toNat)
    ⟨by simp only [WS, List.getElem_cons_zero, List.getElem_cons_succ, Option.isNone_some, Option.isNone_none, List.getD_cons_zero, List.getD_cons_succ, I.at, atL, atO, atP, evp, evs, retV, ↓reduceIte, Nat.reduceEqDiff, reduceCtorEq], 0, l, by simp only [WS, List.getElem_cons_zero, List.getElem_cons_succ, Option.isNone_some, Option.isNone_none, List.getD_cons_zero, List.getD_cons_succ, I.at, atL, atO, atP, evp, evs, retV, ↓reduceIte, Nat.reduceEqDiff, reduceCtorEq]; rfl, by omega, hm, hl, fun i hi => by rw [lev_zero]; exact hv i hi⟩ ?_
  clear hm hl hv l
  rintro t w2 ⟨t0, a, v, t2, ha, hm, hl, hv⟩
  by_cases hlt : a < r
  · have hs := h.sl v w2 hm
    have hDN : 2 ^ a < 2 ^ r := Nat.pow_lt_pow_right (by omega) hlt
    have hst : ∀ b y, b % (2 * 2 ^ a) = 0 → y < 2 ^ a → lev (a + 1) f (b + y) = lev a f (b + y) + lev a f (b + y + 2 ^ a) ∧ lev (a + 1) f (b + y + 2 ^ a) = lev a f (b + y) - lev a f (b + y + 2 ^ a) := fun b y hb hy => lev_step f (by rw [Nat.pow_succ, Nat.mul_comm]; exact hb) hy
    have hND : 2 ^ r % (2 * 2 ^ a) = 0 := by
      refine Nat.mod_eq_zero_of_dvd ?_
      rw [show 2 * 2 ^ a = 2 ^ (a + 1) by rw [Nat.pow_succ, Nat.mul_comm]]
      exact Nat.pow_dvd_pow 2 hlt
    have h0 := Nat.two_pow_pos a
    have hpa : 2 ^ (a + 1) = 2 ^ a * 2 := Nat.pow_succ ..
    obtain ⟨G, hG⟩ : ∃ G, G = lev (a + 1) f := ⟨_, rfl⟩
    rw [← hG] at hst
    generalize lev a f = F at *
    obtain ⟨D, hD⟩ : ∃ D, D = 2 ^ a := ⟨_, rfl⟩
    obtain ⟨N, hN⟩ : ∃ N, N = 2 ^ r := ⟨_, rfl⟩
    rw [← hD] at hst hND hDN h0 hpa t2
    rw [← hN] at hND hDN hl hr16
    simp (maxSteps := 1000000) (disch := omega) only [WS, List.getElem_cons_zero, List.getElem_cons_succ, Option.isNone_some, Option.isNone_none, List.getD_cons_zero, List.getD_cons_succ, I.at, atL, atO, atP, evp, evs, retV, ↓reduceIte, Nat.reduceEqDiff, reduceCtorEq, AS, t0, t2, hs.Xlen, hl]
    refine loop_of (fun t w' => t 0 = s ∧ t 2 = .int .i64 (D : Int) ∧ ∃ (fr : Nat) (v : List (El 16)), t 3 = .int .i64 (fr : Int) ∧ fr ≤ N ∧ fr % (2 * D) = 0 ∧ M v w' ∧ v.length = N ∧ ∀ i (hi : i < v.length), v[i].v.toNat = md (if i < fr then G i else F i)) (fun t _ => N - (toI (t 3)).toNat)
      ⟨by simp only [WS, List.getElem_cons_zero, List.getElem_cons_succ, Option.isNone_some, Option.isNone_none, List.getD_cons_zero, List.getD_cons_succ, I.at, atL, atO, atP, evp, evs, retV, ↓reduceIte, Nat.reduceEqDiff, reduceCtorEq]; exact t0, by simp only [WS, List.getElem_cons_zero, List.getElem_cons_succ, Option.isNone_some, Option.isNone_none, List.getD_cons_zero, List.getD_cons_succ, I.at, atL, atO, atP, evp, evs, retV, ↓reduceIte, Nat.reduceEqDiff, reduceCtorEq]; exact t2, 0, v, by simp only [WS, List.getElem_cons_zero, List.getElem_cons_succ, Option.isNone_some, Option.isNone_none, List.getD_cons_zero, List.getD_cons_succ, I.at, atL, atO, atP, evp, evs, retV, ↓reduceIte, Nat.reduceEqDiff, reduceCtorEq]; rfl, by omega, Nat.zero_mod _, hm, hl, fun i hi => by rw [if_neg (by omega)]; exact hv i hi⟩ ?_
    clear t0 hm hl hv v hs
    rintro t w3 ⟨t0, u2, fr, v, t3, hfr, hfm, hm, hl, hv⟩
    have hs := h.sl v w3 hm
    by_cases hfl : fr < N
    · have hle := mult_le hfm hND hfl
      simp (maxSteps := 1000000) (disch := omega) only [WS, List.getElem_cons_zero, List.getElem_cons_succ, Option.isNone_some, Option.isNone_none, List.getD_cons_zero, List.getD_cons_succ, I.at, atL, atO, atP, evp, evs, retV, ↓reduceIte, Nat.reduceEqDiff, reduceCtorEq, AS, t0, u2, t3, hs.Xlen, hl]
      refine loop_of (fun t w' => t 0 = s ∧ t 2 = .int .i64 (D : Int) ∧ t 3 = .int .i64 (fr : Int) ∧ ∃ (y : Nat) (v : List (El 16)), t 4 = .int .i64 ((fr + y : Nat) : Int) ∧ y ≤ D ∧ M v w' ∧ v.length = N ∧ ∀ i (hi : i < v.length), v[i].v.toNat = md (if i < fr + y ∨ (fr + D ≤ i ∧ i < fr + D + y) then G i else F i)) (fun t _ => N - (toI (t 4)).toNat)
        ⟨by simp only [WS, List.getElem_cons_zero, List.getElem_cons_succ, Option.isNone_some, Option.isNone_none, List.getD_cons_zero, List.getD_cons_succ, I.at, atL, atO, atP, evp, evs, retV, ↓reduceIte, Nat.reduceEqDiff, reduceCtorEq]; exact t0, by simp only [WS, List.getElem_cons_zero, List.getElem_cons_succ, Option.isNone_some, Option.isNone_none, List.getD_cons_zero, List.getD_cons_succ, I.at, atL, atO, atP, evp, evs, retV, ↓reduceIte, Nat.reduceEqDiff, reduceCtorEq]; exact u2, by simp only [WS, List.getElem_cons_zero, List.getElem_cons_succ, Option.isNone_some, Option.isNone_none, List.getD_cons_zero, List.getD_cons_succ, I.at, atL, atO, atP, evp, evs, retV, ↓reduceIte, Nat.reduceEqDiff, reduceCtorEq]; exact t3, 0, v, by simp only [WS, List.getElem_cons_zero, List.getElem_cons_succ, Option.isNone_some, Option.isNone_none, List.getD_cons_zero, List.getD_cons_succ, I.at, atL, atO, atP, evp, evs, retV, ↓reduceIte, Nat.reduceEqDiff, reduceCtorEq]; rfl, by omega, hm, hl, fun i hi => by
          rw [hv i hi]
          by_cases h1 : i < fr
          · rw [if_pos h1, if_pos (by omega)]
          · rw [if_neg h1, if_neg (by omega)]⟩ ?_
      clear t0 u2 t3 hm hl hv v hs
      rintro t w4 ⟨t0, u2, t3, y, v, t4, hy, hm, hl, hv⟩
      by_cases hyl : y < D
      · have hs := (h.sl v w4 hm).drew
        have hi1 : fr + y < v.length := by omega
        have hi2 : fr + y + D < v.length := by omega
        obtain ⟨g1, g2⟩ := hst fr y hfm hyl
        have e1 := hv (fr + y) hi1
        have e2 := hv (fr + y + D) hi2
        rw [if_neg (by omega)] at e1 e2
        have k1 := md_add (F (fr + y)) (F (fr + y + D))
        have k2 := md_sub (F (fr + y)) (F (fr + y + D))
        rw [← g1] at k1
        rw [← g2] at k2
        have m1 := md_lt (F (fr + y))
        have m2 := md_lt (F (fr + y + D))
        generalize md (F (fr + y)) = p at *
        generalize md (F (fr + y + D)) = q at *
        have q1 : (p + q) % 65535 < 65536 := by omega
        have q2 : (p + 65535 - q) % 65535 < 65536 := by omega
        have r1 : ((p + q : Nat) : Int).tmod 65535 = (((p + q) % 65535 : Nat) : Int) := tm_q _
        have r2 : ((p + 65535 - q : Nat) : Int).tmod 65535 = (((p + 65535 - q) % 65535 : Nat) : Int) := tm_q _
        have hne : ((65535 : Int) ≠ 0) = True := eq_true (by decide)
        simp (maxSteps := 1000000) (disch := omega) only [WS, List.getElem_cons_zero, List.getElem_cons_succ, Option.isNone_some, Option.isNone_none, List.getD_cons_zero, List.getD_cons_succ, I.at, atL, atO, atP, evp, evs, retV, ↓reduceIte, Nat.reduceEqDiff, reduceCtorEq, AS, t0, u2, t3, t4]
        refine WP_dops ?_
        simp (maxSteps := 1000000) (disch := omega) only [ES, List.mem_cons, List.not_mem_nil, implies_true, forall_const, WS, List.getElem_cons_zero, List.getElem_cons_succ, Option.isNone_some, Option.isNone_none, List.getD_cons_zero, List.getD_cons_succ, I.at, atL, atO, atP, evp, evs, retV, ↓reduceIte, Nat.reduceEqDiff, reduceCtorEq, AS, t0, u2, t3, t4, hs.Eix hi1, hs.Eld hi1, hs.Eix hi2, hs.Eld hi2, cell_e16, e1, e2, w_nat]
        have hm := h.drew hm
        have hs := h.sl v _ hm
        simp (maxSteps := 1000000) (disch := omega) only [WS, List.getElem_cons_zero, List.getElem_cons_succ, Option.isNone_some, Option.isNone_none, List.getD_cons_zero, List.getD_cons_succ, I.at, atL, atO, atP, evp, evs, retV, ↓reduceIte, Nat.reduceEqDiff, reduceCtorEq, AS, t0, u2, t3, t4, X_rem, hne, r1, wrap_u16 _ q1, hs.Xix hi1]
        rw [en_c q1]
        refine h.Xst hm hi1 (en ((p + q) % 65535)) fun w5 hm5 _ => ?_
        have hs5 := h.sl _ _ hm5
        have hi3 : fr + y + D < (v.set (fr + y) (en ((p + q) % 65535))).length := by rw [List.length_set]; exact hi2
        simp (maxSteps := 1000000) (disch := omega) only [WS, List.getElem_cons_zero, List.getElem_cons_succ, Option.isNone_some, Option.isNone_none, List.getD_cons_zero, List.getD_cons_succ, I.at, atL, atO, atP, evp, evs, retV, ↓reduceIte, Nat.reduceEqDiff, reduceCtorEq, AS, t0, u2, t3, t4, X_rem, hne, r2, wrap_u16 _ q2, hs5.Xix hi3]
        rw [en_c q2]
        refine h.Xst hm5 hi3 (en ((p + 65535 - q) % 65535)) fun w6 hm6 _ => ?_
        simp (maxSteps := 1000000) (disch := omega) only [WS, List.getElem_cons_zero, List.getElem_cons_succ, Option.isNone_some, Option.isNone_none, List.getD_cons_zero, List.getD_cons_succ, I.at, atL, atO, atP, evp, evs, retV, ↓reduceIte, Nat.reduceEqDiff, reduceCtorEq, AS, t0, u2, t3, t4]
        refine ⟨⟨y + 1, _, by rw [Nat.add_assoc], by omega, hm6, by rw [List.length_set, List.length_set]; exact hl, fun i hi => ?_⟩, by omega⟩
        rw [List.getElem_set, List.getElem_set]
        by_cases c2 : fr + y + D = i
        · rw [if_pos c2, en_v q2, k2, ← c2, if_pos (by omega)]
        by_cases c1 : fr + y = i
        · rw [if_neg c2, if_pos c1, en_v q1, k1, ← c1, if_pos (by omega)]
        rw [if_neg c2, if_neg c1, hv i (by rw [List.length_set, List.length_set] at hi; exact hi)]
        by_cases c3 : i < fr + y ∨ (fr + D ≤ i ∧ i < fr + D + y)
        · rw [if_pos c3, if_pos (by omega)]
        · rw [if_neg c3, if_neg (by omega)]
      · obtain ⟨z, hz⟩ : ∃ z, z = fr + 2 * D := ⟨_, rfl⟩
        have hyD : y = D := by omega
        simp (maxSteps := 1000000) (disch := omega) only [WS, List.getElem_cons_zero, List.getElem_cons_succ, Option.isNone_some, Option.isNone_none, List.getD_cons_zero, List.getD_cons_succ, I.at, atL, atO, atP, evp, evs, retV, ↓reduceIte, Nat.reduceEqDiff, reduceCtorEq, AS, t0, u2, t3, t4]
        refine ⟨⟨fr + 2 * D, v, rfl, by omega, by rw [Nat.add_mod_right]; exact hfm, hm, hl, fun i hi => ?_⟩, by omega⟩
        rw [hv i hi]
        by_cases c3 : i < fr + 2 * D
        · rw [if_pos c3, if_pos (by omega)]
        · rw [if_neg c3, if_neg (by omega)]
    · simp (maxSteps := 1000000) (disch := omega) only [WS, List.getElem_cons_zero, List.getElem_cons_succ, Option.isNone_some, Option.isNone_none, List.getD_cons_zero, List.getD_cons_succ, I.at, atL, atO, atP, evp, evs, retV, ↓reduceIte, Nat.reduceEqDiff, reduceCtorEq, AS, t0, u2, t3, hs.Xlen, hl]
      refine ⟨⟨a + 1, v, by rw [hpa], by omega, hm, by rw [hl, hN], fun i hi => ?_⟩, by omega⟩
      rw [hv i hi, if_pos (by omega), hG]
  · obtain rfl : a = r := by omega
    have hs := h.sl v w2 hm
    simp (maxSteps := 1000000) (disch := omega) only [WS, List.getElem_cons_zero, List.getElem_cons_succ, Option.isNone_some, Option.isNone_none, List.getD_cons_zero, List.getD_cons_succ, I.at, atL, atO, atP, evp, evs, retV, ↓reduceIte, Nat.reduceEqDiff, reduceCtorEq, AS, t0, t2, hs.Xlen, hl]
    exact ⟨v, hm, hl, fun i hi => by rw [hv i hi, lev_full f (by omega)]⟩
end Go.Proofs.Ytbaljbadlfopgaa.Fw

set_option linter.unusedVariables false
set_option linter.unusedSimpArgs false
set_option maxRecDepth 100000
set_option maxHeartbeats 1000000
namespace Go.Proofs.Ytbaljbadlfopgaa.Fw
open Go Go.Fw Go.Proofs
attribute [local irreducible] stepI
def c_bits_Len : C := .seq (.ops [⟨0, (some 2), none, .mov (.c (.int .i64 0)), []⟩]) (.seq (.ite (.c (.bool false)) (.seq (.ops [⟨0, (some 3), none, .mov (.t 0), []⟩, ⟨1, (some 4), none, .cnv .u32 (.t 3), []⟩, ⟨2, (some 5), none, .call (.c (.func (.func 104) #[] #[])) [.t 4], []⟩, ⟨3, (some 2), none, .mov (.t 5), []⟩]) .ret) .skip) (.seq (.ops [⟨0, (some 6), none, .mov (.t 0), []⟩, ⟨1, (some 7), none, .call (.c (.func (.func 105) #[] #[])) [.t 6], []⟩, ⟨2, (some 2), none, .mov (.t 7), []⟩]) .ret))
attribute [irreducible] c_bits_Len
theorem run_bits_Len {args : List Value} {w : World} {K : Value → World → Prop} (hn : args.length ≤ 8) (h : WP Try.prog c_bits_Len (endQ [.t 2] K) (initT args) w) : CallV Try.prog 65 args w K :=
  call_of follows Try.func65 (by kernel_rfl) (by kernel_rfl) hn h
def c_walsh_convolved : C := .seq (.ops [⟨0, (some 5), none, .mov (.t 0), []⟩, ⟨1, (some 6), none, .call (.c (.func (.func 140) #[] #[])) [.t 5], []⟩]) (.seq (.ops [⟨0, (some 7), none, .mov (.t 1), []⟩, ⟨1, (some 8), none, .call (.c (.func (.func 140) #[] #[])) [.t 7], []⟩]) (.seq (.seq (.ops [⟨0, (some 9), none, .mov (.t 0), []⟩, ⟨1, (some 10), none, .len (.t 9), []⟩, ⟨2, (some 11), none, .mov (.c (.int .i64 0)), []⟩]) (.block 0 (.loop (.seq (.ops [⟨0, (some 12), none, .bin .lss (.t 11) (.t 10), []⟩]) (.seq (.ite (.t 12) .skip (.exit 0)) (.seq (.block 1 (.seq (.ops [⟨0, (some 13), none, .mov (.t 11), []⟩, ⟨1, (some 4), none, .mov (.t 13), []⟩]) (.dops [⟨0, (some 14), none, .mov (.t 0), []⟩, ⟨1, (some 15), none, .mov (.t 4), []⟩, ⟨2, (some 16), none, .mov (.t 0), []⟩, ⟨3, (some 17), none, .mov (.t 4), []⟩, ⟨4, (some 18), none, .ixs 1 (.t 16) (.t 17), []⟩, ⟨5, (some 19), none, .ld (.t 18), []⟩, ⟨6, (some 20), none, .cnv .i64 (.t 19), []⟩, ⟨7, (some 21), none, .mov (.t 1), []⟩, ⟨8, (some 22), none, .mov (.t 4), []⟩, ⟨9, (some 23), none, .ixs 1 (.t 21) (.t 22), []⟩, ⟨10, (some 24), none, .ld (.t 23), []⟩, ⟨11, (some 25), none, .cnv .i64 (.t 24), []⟩, ⟨12, (some 26), none, .bin .mul (.t 20) (.t 25), []⟩, ⟨13, (some 27), none, .bin .rem (.t 26) (.c (.int .i64 65535)), []⟩, ⟨14, (some 28), none, .cnv .u16 (.t 27), []⟩, ⟨15, (some 29), none, .ixs 1 (.t 14) (.t 15), []⟩, ⟨16, none, none, .st (.t 29) (.t 28), []⟩]))) (.ops [⟨0, (some 30), none, .bin .add (.t 11) (.c (.int .i64 1)), []⟩, ⟨1, (some 11), none, .mov (.t 30), []⟩]))))))) (.ops [⟨0, (some 31), none, .mov (.t 0), []⟩, ⟨1, (some 32), none, .call (.c (.func (.func 141) #[] #[])) [.t 31], []⟩])))
attribute [irreducible] c_walsh_convolved
theorem run_walsh_convolved {args : List Value} {w : World} {K : Value → World → Prop} (hn : args.length ≤ 33) (h : WP Try.prog c_walsh_convolved (endQ [] K) (initT args) w) : CallV Try.prog 111 args w K :=
  call_of follows Try.func111 (by kernel_rfl) (by kernel_rfl) hn h
def c_walsh_back : C := .seq (.ops [⟨0, (some 5), none, .mov (.t 0), []⟩, ⟨1, (some 6), none, .call (.c (.func (.func 140) #[] #[])) [.t 5], []⟩]) (.seq (.ops [⟨0, (some 7), none, .mov (.t 0), []⟩, ⟨1, (some 8), none, .len (.t 7), []⟩, ⟨2, (some 9), none, .cnv .u64 (.t 8), []⟩, ⟨3, (some 10), none, .call (.c (.func (.func 65) #[] #[])) [.t 9], []⟩, ⟨4, (some 11), none, .bin .sub (.t 10) (.c (.int .i64 1)), []⟩, ⟨5, (some 12), none, .bin .sub (.c (.int .i64 16)) (.t 11), []⟩, ⟨6, (some 13), none, .bin .shl (.c (.int .i64 1)) (.t 12), []⟩, ⟨7, (some 14), none, .bin .rem (.t 13) (.c (.int .i64 65535)), []⟩, ⟨8, (some 2), none, .mov (.t 14), []⟩]) (.seq (.ops [⟨0, (some 15), none, .mov (.t 0), []⟩, ⟨1, (some 16), none, .len (.t 15), []⟩, ⟨2, (some 17), none, .mov (.c (.int .i64 0)), []⟩]) (.block 0 (.loop (.seq (.ops [⟨0, (some 18), none, .bin .lss (.t 17) (.t 16), []⟩]) (.seq (.ite (.t 18) .skip (.exit 0)) (.seq (.block 1 (.seq (.ops [⟨0, (some 19), none, .mov (.t 17), []⟩, ⟨1, (some 20), none, .ixs 1 (.t 15) (.t 17), []⟩, ⟨2, (some 21), none, .ld (.t 20), []⟩, ⟨3, (some 3), none, .mov (.t 19), []⟩, ⟨4, (some 4), none, .mov (.t 21), []⟩]) (.ops [⟨0, (some 22), none, .mov (.t 0), []⟩, ⟨1, (some 23), none, .mov (.t 3), []⟩, ⟨2, (some 24), none, .mov (.t 4), []⟩, ⟨3, (some 25), none, .cnv .i64 (.t 24), []⟩, ⟨4, (some 26), none, .mov (.t 2), []⟩, ⟨5, (some 27), none, .bin .mul (.t 25) (.t 26), []⟩, ⟨6, (some 28), none, .bin .rem (.t 27) (.c (.int .i64 65535)), []⟩, ⟨7, (some 29), none, .cnv .u16 (.t 28), []⟩, ⟨8, (some 30), none, .ixs 1 (.t 22) (.t 23), []⟩, ⟨9, none, none, .st (.t 30) (.t 29), []⟩]))) (.ops [⟨0, (some 31), none, .bin .add (.t 17) (.c (.int .i64 1)), []⟩, ⟨1, (some 17), none, .mov (.t 31), []⟩]))))))))
attribute [irreducible] c_walsh_back
theorem run_walsh_back {args : List Value} {w : World} {K : Value → World → Prop} (hn : args.length ≤ 32) (h : WP Try.prog c_walsh_back (endQ [] K) (initT args) w) : CallV Try.prog 141 args w K :=
  call_of follows Try.func141 (by kernel_rfl) (by kernel_rfl) hn h
end Go.Proofs.Ytbaljbadlfopgaa.Fw
namespace Go.Proofs.Ytbaljbadlfopgaa.Fw
open Go Go.Fw
theorem mul_w (p q : Nat) (hp : p < 65536) (hq : q < 65536) : IntKind.i64.wrap ((p : Int) * (q : Int)) = ((p * q : Nat) : Int) := by
  have h := Nat.mul_le_mul (show p ≤ 65535 by omega) (show q ≤ 65535 by omega)
  rw [← Int.natCast_mul]
  exact w_nat _ (by omega)
theorem bits_Len_spec2 (w : World) (x : Nat) (hx : x < 18446744073709551616) : CallV Try.prog 65 [.int .u64 (x : Int)] w fun v w' => v = .int .i64 (blen x : Int) ∧ w' = w := by
  refine run_bits_Len (by simp) ?_
  simp only [c_bits_Len, WS, List.getElem_cons_zero, List.getElem_cons_succ, Option.isNone_some, Option.isNone_none, List.getD_cons_zero, List.getD_cons_succ, I.at, atL, atO, atP, evp, evs, retV, ↓reduceIte, Nat.reduceEqDiff, reduceCtorEq]
  refine X_call0 ((bits_Len64_spec w x hx).mono ?_)
  rintro _ w' ⟨rfl, rfl⟩
  simp (maxSteps := 1000000) (disch := omega) only [WS, List.getElem_cons_zero, List.getElem_cons_succ, Option.isNone_some, Option.isNone_none, List.getD_cons_zero, List.getD_cons_succ, I.at, atL, atO, atP, evp, evs, retV, ↓reduceIte, Nat.reduceEqDiff, reduceCtorEq, AS]
theorem walsh_back_spec {M : List (El 16) → World → Prop} {s : Value} (h : Wr M s) (w : World) (l : List (El 16)) (r : Nat) (f : Nat → Int) (hm : M l w) (hl : l.length = 2 ^ r) (hr : r ≤ 16) (hv : ∀ i (hi : i < l.length), l[i].v.toNat = md (f i)) :
    CallV Try.prog 141 [s] w fun v w' => v = .tuple #[] ∧ ∃ l', M l' w' ∧ l'.length = 2 ^ r ∧ ∀ i (hi : i < l'.length), l'[i].v.toNat = md (hw r f i * ((2 ^ (16 - r) : Nat) : Int)) := by
  refine run_walsh_back (by simp) ?_
  simp only [c_walsh_back, WS, List.getElem_cons_zero, List.getElem_cons_succ, Option.isNone_some, Option.isNone_none, List.getD_cons_zero, List.getD_cons_succ, I.at, atL, atO, atP, evp, evs, retV, ↓reduceIte, Nat.reduceEqDiff, reduceCtorEq]
  have hr16 := pow_le16' hr
  refine X_call0 ((walsh_turn_spec h w l r f hm hl hr hv).mono ?_)
  rintro _ w1 ⟨rfl, a, hm, hl, hv⟩
  have hs := h.sl a w1 hm
  have e1 : IntKind.u64.wrap (((2 ^ r : Nat) : Int)) = ((2 ^ r : Nat) : Int) := wrap_u64 _ (by omega)
  simp (maxSteps := 1000000) (disch := omega) only [WS, List.getElem_cons_zero, List.getElem_cons_succ, Option.isNone_some, Option.isNone_none, List.getD_cons_zero, List.getD_cons_succ, I.at, atL, atO, atP, evp, evs, retV, ↓reduceIte, Nat.reduceEqDiff, reduceCtorEq, AS, hs.Xlen, hl, e1]
  refine X_call0 ((bits_Len_spec2 w1 (2 ^ r) (by omega)).mono ?_)
  have hb : blen (2 ^ r) = r + 1 := blen_eq (Nat.le_refl _) (Nat.pow_lt_pow_right (by omega) (by omega))
  rw [hb]
  rintro _ w' ⟨rfl, rfl⟩
  have e2 : IntKind.i64.wrap (((r + 1 : Nat) : Int) - 1) = (r : Int) := by rw [wrap_id (by omega) (by omega)]; omega
  have e3 : IntKind.i64.wrap (16 - (r : Int)) = ((16 - r : Nat) : Int) := by rw [wrap_id (by omega) (by omega)]; omega
  have e4 : shlV .i64 1 ((16 - r : Nat) : Int) = ((2 ^ (16 - r) : Nat) : Int) := by
    have := shl_nat fits_i64 1 (16 - r) (by show 16 - r ≤ 64; omega) (by rw [Nat.one_mul]; exact Nat.pow_lt_pow_right (by omega) (by omega))
    rw [Nat.one_shiftLeft] at this
    exact this
  have e5 : ((2 ^ (16 - r) : Nat) : Int).tmod 65535 = ((md ((2 ^ (16 - r) : Nat) : Int) : Nat) : Int) := by rw [md_nat]; exact tm_q _
  have hne : ((65535 : Int) ≠ 0) = True := eq_true (by decide)
  have hq := md_lt ((2 ^ (16 - r) : Nat) : Int)
  have hmm : ∀ z, (md z * md ((2 ^ (16 - r) : Nat) : Int)) % 65535 = md (z * ((2 ^ (16 - r) : Nat) : Int)) := fun z => md_mul z _
  generalize hg : hw r f = F at *
  generalize ((2 ^ (16 - r) : Nat) : Int) = sc at *
  generalize md sc = q at *
  obtain ⟨N, hN⟩ : ∃ N, N = 2 ^ r := ⟨_, rfl⟩
  rw [← hN] at hl e1 hr16 ⊢
  have hNl : (N : Int) = ((N : Nat) : Int) := rfl
  simp (maxSteps := 1000000) (disch := omega) only [WS, List.getElem_cons_zero, List.getElem_cons_succ, Option.isNone_some, Option.isNone_none, List.getD_cons_zero, List.getD_cons_succ, I.at, atL, atO, atP, evp, evs, retV, ↓reduceIte, Nat.reduceEqDiff, reduceCtorEq, AS, hs.Xlen, hl, e2, e3, X_shl, e4, Int.natCast_nonneg, X_rem, hne, e5]
  refine loop_of (fun t w' => t 0 = s ∧ t 2 = .int .i64 (q : Int) ∧ t 15 = s ∧ t 16 = .int .i64 (N : Int) ∧ ∃ (k : Nat) (v : List (El 16)), t 17 = .int .i64 (k : Int) ∧ k ≤ N ∧ M v w' ∧ v.length = N ∧ ∀ i (hi : i < v.length), v[i].v.toNat = md (if i < k then F i * sc else F i)) (fun t _ => N - (toI (t 17)).toNat)
    ⟨by simp only [WS, List.getElem_cons_zero, List.getElem_cons_succ, Option.isNone_some, Option.isNone_none, List.getD_cons_zero, List.getD_cons_succ, I.at, atL, atO, atP, evp, evs, retV, ↓reduceIte, Nat.reduceEqDiff, reduceCtorEq], by simp only [WS, List.getElem_cons_zero, List.getElem_cons_succ, Option.isNone_some, Option.isNone_none, List.getD_cons_zero, List.getD_cons_succ, I.at, atL, atO, atP, evp, evs, retV, ↓reduceIte, Nat.reduceEqDiff, reduceCtorEq], by simp only [WS, List.getElem_cons_zero, List.getElem_cons_succ, Option.isNone_some, Option.isNone_none, List.getD_cons_zero, List.getD_cons_succ, I.at, atL, atO, atP, evp, evs, retV, ↓reduceIte, Nat.reduceEqDiff, reduceCtorEq], by simp only [WS, List.getElem_cons_zero, List.getElem_cons_succ, Option.isNone_some, Option.isNone_none, List.getD_cons_zero, List.getD_cons_succ, I.at, atL, atO, atP, evp, evs, retV, ↓reduceIte, Nat.reduceEqDiff, reduceCtorEq], 0, a, by simp only [WS, List.getElem_cons_zero, List.getElem_cons_succ, Option.isNone_some, Option.isNone_none, List.getD_cons_zero, List.getD_cons_succ, I.at, atL, atO, atP, evp, evs, retV, ↓reduceIte, Nat.reduceEqDiff, reduceCtorEq]; rfl, by omega, hm, hl, fun i hi => by rw [if_neg (by omega)]; exact hv i hi⟩ ?_
  clear hm hv hs hl a
  rintro t w3 ⟨t0, t2, t15, t16, k, v, t17, hk, hm, hl, hv⟩
  by_cases hlt : k < N
  · have hs := h.sl v w3 hm
    have hi1 : k < v.length := by omega
    have e6 := hv k hi1
    rw [if_neg (by omega)] at e6
    have k1 := hmm (F k)
    have m1 := md_lt (F k)
    generalize md (F k) = p at *
    have q1 : (p * q) % 65535 < 65536 := by omega
    have r1 : ((p * q : Nat) : Int).tmod 65535 = (((p * q) % 65535 : Nat) : Int) := tm_q _
    simp (maxSteps := 1000000) (disch := omega) only [WS, List.getElem_cons_zero, List.getElem_cons_succ, Option.isNone_some, Option.isNone_none, List.getD_cons_zero, List.getD_cons_succ, I.at, atL, atO, atP, evp, evs, retV, ↓reduceIte, Nat.reduceEqDiff, reduceCtorEq, AS, t0, t2, t15, t16, t17, hs.Xix hi1, hs.Xld hi1, cell_e16, e6, w_nat, mul_w p q (by omega) (by omega), X_rem, hne, r1, wrap_u16 _ q1]
    rw [en_c q1]
    refine h.Xst hm hi1 (en ((p * q) % 65535)) fun w5 hm5 _ => ?_
    simp (maxSteps := 1000000) (disch := omega) only [WS, List.getElem_cons_zero, List.getElem_cons_succ, Option.isNone_some, Option.isNone_none, List.getD_cons_zero, List.getD_cons_succ, I.at, atL, atO, atP, evp, evs, retV, ↓reduceIte, Nat.reduceEqDiff, reduceCtorEq, AS, t0, t2, t15, t16, t17]
    refine ⟨⟨k + 1, _, rfl, by omega, hm5, by rw [List.length_set]; exact hl, fun i hi => ?_⟩, by omega⟩
    rw [List.getElem_set]
    by_cases c1 : k = i
    · rw [if_pos c1, en_v q1, k1, ← c1, if_pos (by omega)]
    rw [if_neg c1, hv i (by rw [List.length_set] at hi; exact hi)]
    by_cases c3 : i < k
    · rw [if_pos c3, if_pos (by omega)]
    · rw [if_neg c3, if_neg (by omega)]
  · obtain ⟨e, he⟩ : ∃ e, e = k := ⟨_, rfl⟩
    simp (maxSteps := 1000000) (disch := omega) only [WS, List.getElem_cons_zero, List.getElem_cons_succ, Option.isNone_some, Option.isNone_none, List.getD_cons_zero, List.getD_cons_succ, I.at, atL, atO, atP, evp, evs, retV, ↓reduceIte, Nat.reduceEqDiff, reduceCtorEq, AS, t0, t2, t15, t16, t17]
    exact ⟨v, hm, hl, fun i hi => by rw [hv i hi, if_pos (by omega)]⟩
theorem walsh_convolved_spec {M : List (El 16) → List (El 16) → World → Prop} {s1 s2 : Value} (h1 : ∀ b, Wr (fun a w => M a b w) s1) (h2 : ∀ a, Wr (fun b w => M a b w) s2) (w : World) (a b : List (El 16)) (r : Nat) (f g : Nat → Int)
    (hm : M a b w) (ha : a.length = 2 ^ r) (hb : b.length = 2 ^ r) (hr : r ≤ 16) (hva : ∀ i (hi : i < a.length), a[i].v.toNat = md (f i)) (hvb : ∀ i (hi : i < b.length), b[i].v.toNat = md (g i)) :
    CallV Try.prog 111 [s1, s2] w fun v w' => v = .tuple #[] ∧ ∃ a' b', M a' b' w' ∧ a'.length = 2 ^ r ∧ ∀ i (hi : i < a'.length), a'[i].v.toNat = md (cv r f g i) := by
  refine run_walsh_convolved (by simp) ?_
  simp only [c_walsh_convolved, WS, List.getElem_cons_zero, List.getElem_cons_succ, Option.isNone_some, Option.isNone_none, List.getD_cons_zero, List.getD_cons_succ, I.at, atL, atO, atP, evp, evs, retV, ↓reduceIte, Nat.reduceEqDiff, reduceCtorEq]
  have hr16 := pow_le16' hr
  refine X_call0 ((walsh_turn_spec (h1 b) w a r f hm ha hr hva).mono ?_)
  rintro _ w1 ⟨rfl, a1, hm, ha, hva⟩
  simp (maxSteps := 1000000) (disch := omega) only [WS, List.getElem_cons_zero, List.getElem_cons_succ, Option.isNone_some, Option.isNone_none, List.getD_cons_zero, List.getD_cons_succ, I.at, atL, atO, atP, evp, evs, retV, ↓reduceIte, Nat.reduceEqDiff, reduceCtorEq, AS]
  refine X_call0 ((walsh_turn_spec (h2 a1) w1 b r g hm hb hr hvb).mono ?_)
  rintro _ w2 ⟨rfl, b1, hm, hb, hvb⟩
  have hs := (h1 b1).sl a1 w2 hm
  simp (maxSteps := 1000000) (disch := omega) only [WS, List.getElem_cons_zero, List.getElem_cons_succ, Option.isNone_some, Option.isNone_none, List.getD_cons_zero, List.getD_cons_succ, I.at, atL, atO, atP, evp, evs, retV, ↓reduceIte, Nat.reduceEqDiff, reduceCtorEq, AS, hs.Xlen, ha]
  have hne : ((65535 : Int) ≠ 0) = True := eq_true (by decide)
  refine loop_of (fun t w' => t 0 = s1 ∧ t 1 = s2 ∧ t 10 = .int .i64 ((2 ^ r : Nat) : Int) ∧ ∃ (k : Nat) (v : List (El 16)), t 11 = .int .i64 (k : Int) ∧ k ≤ 2 ^ r ∧ M v b1 w' ∧ v.length = 2 ^ r ∧ ∀ i (hi : i < v.length), v[i].v.toNat = md (if i < k then hw r f i * hw r g i else hw r f i)) (fun t _ => 2 ^ r - (toI (t 11)).toNat)
    ⟨by simp only [WS, List.getElem_cons_zero, List.getElem_cons_succ, Option.isNone_some, Option.isNone_none, List.getD_cons_zero, List.getD_cons_succ, I.at, atL, atO, atP, evp, evs, retV, ↓reduceIte, Nat.reduceEqDiff, reduceCtorEq], by simp only [WS, List.getElem_cons_zero, List.getElem_cons_succ, Option.isNone_some, Option.isNone_none, List.getD_cons_zero, List.getD_cons_succ, I.at, atL, atO, atP, evp, evs, retV, ↓reduceIte, Nat.reduceEqDiff, reduceCtorEq], by simp only [WS, List.getElem_cons_zero, List.getElem_cons_succ, Option.isNone_some, Option.isNone_none, List.getD_cons_zero, List.getD_cons_succ, I.at, atL, atO, atP, evp, evs, retV, ↓reduceIte, Nat.reduceEqDiff, reduceCtorEq], 0, a1, by simp only [WS, List.getElem_cons_zero, List.getElem_cons_succ, Option.isNone_some, Option.isNone_none, List.getD_cons_zero, List.getD_cons_succ, I.at, atL, atO, atP, evp, evs, retV, ↓reduceIte, Nat.reduceEqDiff, reduceCtorEq]; rfl, by omega, hm, ha, fun i hi => by rw [if_neg (by omega)]; exact hva i hi⟩ ?_
  clear hm hva hs ha
  rintro t w3 ⟨t0, t1, t10, k, v, t11, hk, hm, hl, hv⟩
  by_cases hlt : k < 2 ^ r
  · have hi1 : k < v.length := by omega
    have hi2 : k < b1.length := by omega
    have e6 := hv k hi1
    rw [if_neg (by omega)] at e6
    have e7 := hvb k hi2
    have k1 := md_mul (hw r f k) (hw r g k)
    have m1 := md_lt (hw r f k)
    have m2 := md_lt (hw r g k)
    generalize md (hw r f k) = p at *
    generalize md (hw r g k) = q at *
    have q1 : (p * q) % 65535 < 65536 := by omega
    have r1 : ((p * q : Nat) : Int).tmod 65535 = (((p * q) % 65535 : Nat) : Int) := tm_q _
    simp (maxSteps := 1000000) (disch := omega) only [WS, List.getElem_cons_zero, List.getElem_cons_succ, Option.isNone_some, Option.isNone_none, List.getD_cons_zero, List.getD_cons_succ, I.at, atL, atO, atP, evp, evs, retV, ↓reduceIte, Nat.reduceEqDiff, reduceCtorEq, AS, t0, t1, t10, t11]
    refine WP_dops ?_
    have hm := (h1 b1).drew hm
    have hs := (h1 b1).sl v _ hm
    have hs2 := (h2 v).sl b1 _ hm
    simp (maxSteps := 1000000) (disch := omega) only [ES, List.mem_cons, List.not_mem_nil, implies_true, forall_const, WS, List.getElem_cons_zero, List.getElem_cons_succ, Option.isNone_some, Option.isNone_none, List.getD_cons_zero, List.getD_cons_succ, I.at, atL, atO, atP, evp, evs, retV, ↓reduceIte, Nat.reduceEqDiff, reduceCtorEq, AS, t0, t1, t10, t11, hs.Eix hi1, hs.Eld hi1, hs2.Eix hi2, hs2.Eld hi2, cell_e16, e6, e7, w_nat, mul_w p q (by omega) (by omega), E_rem, hne, r1, wrap_u16 _ q1]
    rw [en_c q1]
    refine (h1 b1).Est hm hi1 (en ((p * q) % 65535)) fun w5 hm5 _ => ?_
    simp (maxSteps := 1000000) (disch := omega) only [ES, List.mem_cons, List.not_mem_nil, implies_true, forall_const, WS, List.getElem_cons_zero, List.getElem_cons_succ, Option.isNone_some, Option.isNone_none, List.getD_cons_zero, List.getD_cons_succ, I.at, atL, atO, atP, evp, evs, retV, ↓reduceIte, Nat.reduceEqDiff, reduceCtorEq, AS, t0, t1, t10, t11]
    refine ⟨⟨k + 1, _, rfl, by omega, hm5, by rw [List.length_set]; exact hl, fun i hi => ?_⟩, by omega⟩
    rw [List.getElem_set]
    by_cases c1 : k = i
    · rw [if_pos c1, en_v q1, k1, ← c1, if_pos (by omega)]
    rw [if_neg c1, hv i (by rw [List.length_set] at hi; exact hi)]
    by_cases c3 : i < k
    · rw [if_pos c3, if_pos (by omega)]
    · rw [if_neg c3, if_neg (by omega)]
  · simp (maxSteps := 1000000) (disch := omega) only [WS, List.getElem_cons_zero, List.getElem_cons_succ, Option.isNone_some, Option.isNone_none, List.getD_cons_zero, List.getD_cons_succ, I.at, atL, atO, atP, evp, evs, retV, ↓reduceIte, Nat.reduceEqDiff, reduceCtorEq, AS, t0, t1, t10, t11]
    refine X_call0 ((walsh_back_spec (h1 b1) w3 v r (hw r (cv r f g)) hm hl hr (fun i hi => by rw [hv i hi, if_pos (by omega), hw_cv r f g i (by omega)])).mono ?_)
    rintro _ w4 ⟨rfl, a', hm, ha, hva⟩
    simp (maxSteps := 1000000) (disch := omega) only [WS, List.getElem_cons_zero, List.getElem_cons_succ, Option.isNone_some, Option.isNone_none, List.getD_cons_zero, List.getD_cons_succ, I.at, atL, atO, atP, evp, evs, retV, ↓reduceIte, Nat.reduceEqDiff, reduceCtorEq, AS]
    refine ⟨a', b1, hm, ha, fun i hi => ?_⟩
    rw [hva i hi, hw_hw r _ i (by omega)]
    have hp : (2 : Int) ^ r * ((2 ^ (16 - r) : Nat) : Int) = 65536 := by
      rw [show (2 : Int) ^ r = ((2 ^ r : Nat) : Int) by simp, ← Int.natCast_mul, ← Nat.pow_add, show r + (16 - r) = 16 by omega]; rfl
    have e8 : (2 : Int) ^ r * cv r f g i * ((2 ^ (16 - r) : Nat) : Int) = cv r f g i * 65536 := by
      rw [← hp]; ac_rfl
    rw [e8]
    generalize cv r f g i = z
    have := md_v (z * 65536)
    have := md_v z
    omega
end Go.Proofs.Ytbaljbadlfopgaa.Fw
