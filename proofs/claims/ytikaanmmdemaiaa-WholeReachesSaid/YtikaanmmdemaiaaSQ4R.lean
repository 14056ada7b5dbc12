import Derived.Test.YtikaanmmdemaiaaProg
import Derived.Test.YtikaanmmdemaiaaFwTR
import Derived.Test.YtikaanmmdemaiaaSQ3R
set_option linter.all false
set_option linter.unusedVariables false
set_option linter.unusedSimpArgs false
set_option maxRecDepth 100000
set_option maxHeartbeats 1000000
namespace Go.Proofs.Ytikaanmmdemaiaa.Fw
open Go Go.Fw Go.Proofs
attribute [local irreducible] stepI
def c_afft_Forward : C := .seq (.ops [⟨0, (some 4), none, .mov (.c (.slice none 0 0)), []⟩, ⟨1, (some 5), none, .mov (.c (.int .i64 0)), []⟩]) (.seq (.ops [⟨0, (some 11), none, .mov (.t 0), []⟩, ⟨1, (some 12), none, .len (.t 11), []⟩, ⟨2, (some 6), none, .mov (.t 12), []⟩]) (.seq (.block 0 (.seq (.ops [⟨0, (some 14), none, .mov (.t 6), []⟩, ⟨1, (some 15), none, .call (.c (.func (.func 28) #[] #[])) [.t 14], []⟩, ⟨2, (some 16), none, .un .not (.t 15), []⟩, ⟨3, (some 13), none, .mov (.t 16), []⟩]) (.ite (.t 13) (.seq (.ops [⟨0, (some 4), none, .mov (.c (.slice none 0 0)), []⟩, ⟨1, (some 5), none, .mov (.c (.int .i64 130)), []⟩]) .ret) (.seq (.ops [⟨0, (some 18), none, .mov (.t 1), []⟩, ⟨1, (some 19), none, .mov (.t 6), []⟩, ⟨2, (some 20), none, .mov (.t 6), []⟩, ⟨3, (some 21), none, .call (.c (.func (.func 29) #[] #[])) [.t 18, .t 19, .t 20], []⟩, ⟨4, (some 22), none, .un .not (.t 21), []⟩, ⟨5, (some 17), none, .mov (.t 22), []⟩]) (.ite (.t 17) (.seq (.ops [⟨0, (some 4), none, .mov (.c (.slice none 0 0)), []⟩, ⟨1, (some 5), none, .mov (.c (.int .i64 140)), []⟩]) .ret) .skip))))) (.seq (.ops [⟨0, (some 23), none, .mov (.t 0), []⟩, ⟨1, (some 24), none, .app 26 2 [.int .u16 0] (.c (.slice none 0 0)) (.t 23), []⟩, ⟨2, (some 7), none, .mov (.t 24), []⟩]) (.seq (.seq (.ops [⟨0, (some 25), none, .mov (.t 6), []⟩, ⟨1, (some 26), none, .call (.c (.func (.func 32) #[] #[])) [.t 25], []⟩, ⟨2, (some 27), none, .mov (.t 6), []⟩, ⟨3, (some 28), none, .bin .quo (.t 27) (.c (.int .i64 2)), []⟩, ⟨4, (some 8), none, .mov (.t 26), []⟩, ⟨5, (some 9), none, .mov (.t 28), []⟩]) (.block 1 (.loop (.seq (.seq (.ops [⟨0, (some 29), none, .mov (.t 9), []⟩, ⟨1, (some 30), none, .bin .gtr (.t 29) (.c (.int .i64 0)), []⟩]) (.ite (.t 30) .skip (.exit 1))) (.seq (.block 2 (.seq (.ops [⟨0, (some 10), none, .mov (.c (.int .i64 0)), []⟩]) (.block 3 (.loop (.seq (.seq (.ops [⟨0, (some 35), none, .mov (.t 10), []⟩, ⟨1, (some 36), none, .mov (.t 6), []⟩, ⟨2, (some 37), none, .bin .lss (.t 35) (.t 36), []⟩]) (.ite (.t 37) .skip (.exit 3))) (.seq (.block 4 (.dops [⟨0, (some 42), none, .mov (.t 8), []⟩, ⟨1, (some 43), none, .mov (.t 1), []⟩, ⟨2, (some 44), none, .mov (.t 10), []⟩, ⟨3, (some 45), none, .bin .add (.t 43) (.t 44), []⟩, ⟨4, (some 46), none, .call (.c (.func (.func 31) #[] #[])) [.t 42, .t 45], []⟩, ⟨5, (some 47), none, .mov (.t 7), []⟩, ⟨6, (some 48), none, .mov (.t 10), []⟩, ⟨7, (some 49), none, .mov (.t 10), []⟩, ⟨8, (some 50), none, .mov (.t 9), []⟩, ⟨9, (some 51), none, .bin .add (.t 49) (.t 50), []⟩, ⟨10, (some 52), none, .slc 1 (.t 47) (some (.t 48)) (some (.t 51)) none, []⟩, ⟨11, (some 53), none, .mov (.t 7), []⟩, ⟨12, (some 54), none, .mov (.t 10), []⟩, ⟨13, (some 55), none, .mov (.t 9), []⟩, ⟨14, (some 56), none, .bin .add (.t 54) (.t 55), []⟩, ⟨15, (some 57), none, .mov (.t 10), []⟩, ⟨16, (some 58), none, .mov (.t 9), []⟩, ⟨17, (some 59), none, .bin .mul (.c (.int .i64 2)) (.t 58), []⟩, ⟨18, (some 60), none, .bin .add (.t 57) (.t 59), []⟩, ⟨19, (some 61), none, .slc 1 (.t 53) (some (.t 56)) (some (.t 60)) none, []⟩, ⟨20, (some 62), none, .call (.c (.func (.func 33) #[] #[])) [.t 46, .t 52, .t 61], []⟩])) (.ops [⟨0, (some 38), none, .mov (.t 10), []⟩, ⟨1, (some 39), none, .mov (.t 9), []⟩, ⟨2, (some 40), none, .bin .mul (.c (.int .i64 2)) (.t 39), []⟩, ⟨3, (some 41), none, .bin .add (.t 38) (.t 40), []⟩, ⟨4, (some 10), none, .mov (.t 41), []⟩]))))))) (.ops [⟨0, (some 31), none, .mov (.t 8), []⟩, ⟨1, (some 32), none, .bin .sub (.t 31) (.c (.int .i64 1)), []⟩, ⟨2, (some 33), none, .mov (.t 9), []⟩, ⟨3, (some 34), none, .bin .quo (.t 33) (.c (.int .i64 2)), []⟩, ⟨4, (some 8), none, .mov (.t 32), []⟩, ⟨5, (some 9), none, .mov (.t 34), []⟩])))))) (.seq (.ops [⟨0, (some 63), none, .mov (.t 7), []⟩, ⟨1, (some 4), none, .mov (.t 63), []⟩, ⟨2, (some 5), none, .mov (.c (.int .i64 0)), []⟩]) .ret)))))
attribute [irreducible] c_afft_Forward
theorem run_afft_Forward {args : List Value} {w : World} {K : Value → World → Prop} (hn : args.length ≤ 64) (h : WP Try.prog c_afft_Forward (endQ [.t 4, .t 5] K) (initT args) w) : CallV Try.prog 12 args w K :=
  call_of follows Try.func12 (by kernel_rfl) (by kernel_rfl) hn h
end Go.Proofs.Ytikaanmmdemaiaa.Fw
namespace Go.Proofs.Ytikaanmmdemaiaa.Fw
open Go Go.Fw
theorem pow_le16 {k : Nat} (h : k ≤ 16) : 2 ^ k ≤ 65536 := by have : 2 ^ k ≤ 2 ^ 16 := Nat.pow_le_pow_right (by omega) h; omega
theorem mod0_lt {o n h : Nat} (h0 : 0 < h) (ho : o % h = 0) (hn : n % h = 0) (hlt : o < n) : o + h ≤ n := by
  obtain ⟨a, rfl⟩ := Nat.dvd_of_mod_eq_zero ho
  obtain ⟨b, rfl⟩ := Nat.dvd_of_mod_eq_zero hn
  have : a < b := Nat.lt_of_mul_lt_mul_left hlt
  calc h * a + h = h * (a + 1) := (Nat.mul_succ h a).symm
    _ ≤ h * b := Nat.mul_le_mul_left h this
theorem pow_mod_half {k j : Nat} (h : j < k) : 2 ^ k % (2 * 2 ^ j) = 0 := pow_dvd_mod (n := 2 ^ k) (k := k) (Nat.mod_self _) h
/-- One pair of pieces, forth. -/
theorem bfn_piece {j A o : Nat} {f : Nat → El 16} (ho : o % (2 * 2 ^ j) = 0) (i : Nat) (h1 : o ≤ i) (h2 : i < o + 2 * 2 ^ j) :
    bfn j A f i = if i < o + 2 ^ j then f i + wel ((A + o) >>> j) * f (i + 2 ^ j) else f (i - 2 ^ j) + wel ((A + o) >>> j) * f i + f i := by
  have hm : i % (2 * 2 ^ j) = i - o := by
    obtain ⟨r, rfl⟩ : ∃ r, i = o + r := ⟨i - o, by omega⟩
    rw [Nat.add_mod, ho, Nat.zero_add, Nat.mod_mod, Nat.mod_eq_of_lt (by omega)]; omega
  unfold bfn
  rw [hm, show i - (i - o) = o by omega]
  by_cases h : i < o + 2 ^ j
  · rw [if_pos (by omega), if_pos h]
  · rw [if_neg (by omega), if_neg h]
theorem bin_piece {j A o : Nat} {f : Nat → El 16} (ho : o % (2 * 2 ^ j) = 0) (i : Nat) (h1 : o ≤ i) (h2 : i < o + 2 * 2 ^ j) :
    bin' j A f i = if i < o + 2 ^ j then f i + wel ((A + o) >>> j) * (f i + f (i + 2 ^ j)) else f (i - 2 ^ j) + f i := by
  have hm : i % (2 * 2 ^ j) = i - o := by
    obtain ⟨r, rfl⟩ : ∃ r, i = o + r := ⟨i - o, by omega⟩
    rw [Nat.add_mod, ho, Nat.zero_add, Nat.mod_mod, Nat.mod_eq_of_lt (by omega)]; omega
  unfold bin'
  rw [hm, show i - (i - o) = o by omega]
  by_cases h : i < o + 2 ^ j
  · rw [if_pos (by omega), if_pos h]
  · rw [if_neg (by omega), if_neg h]
/-- A list cut at a pair of pieces. -/
theorem cut2 (m : List (El 16)) {o h : Nat} (hl : o + 2 * h ≤ m.length) : m = m.take o ++ (m.drop o).take h ++ (m.drop (o + h)).take h ++ m.drop (o + 2 * h) := by
  have e1 : m.drop o = (m.drop o).take h ++ m.drop (o + h) := by rw [← List.drop_drop, List.take_append_drop]
  have e2 : m.drop (o + h) = (m.drop (o + h)).take h ++ m.drop (o + 2 * h) := by
    have := (List.take_append_drop h (m.drop (o + h))).symm
    rw [List.drop_drop] at this
    rw [show o + 2 * h = o + h + h by omega]; exact this
  rw [List.append_assoc, ← e2, List.append_assoc, ← e1, List.take_append_drop]
theorem afft_Forward_spec (w : World) (s : Value) (l : List (El 16)) (a : Int) (h : Sl w s l) (hb : l.length ≤ 70368744175616) :
    CallV Try.prog 12 [s, .int .i64 a] w fun v w' => RowKit.Below w.heap.size w w' ∧ ((∃ k, k ≤ 16 ∧ l.length = 2 ^ k ∧ isC a (2 ^ k) (2 ^ k) = true ∧ ∃ sv m, v = .tuple #[sv, .int .i64 0] ∧ Ow w.heap.size w' sv m ∧ m.length = l.length ∧ ∀ i, i < 2 ^ k → (co m).c i = itF a.toNat k (co l).c i) ∨
      (isP (l.length : Int) = false ∧ v = .tuple #[.slice none 0 0, .int .i64 130]) ∨ (isP (l.length : Int) = true ∧ isC a l.length l.length = false ∧ v = .tuple #[.slice none 0 0, .int .i64 140])) := by
  refine run_afft_Forward (by simp) ?_
  simp only [c_afft_Forward, WS, List.getElem_cons_zero, List.getElem_cons_succ, Option.isNone_some, Option.isNone_none, List.getD_cons_zero, List.getD_cons_succ, I.at, atL, atO, atP, evp, evs, retV, ↓reduceIte, Nat.reduceEqDiff, reduceCtorEq, h.Xlen]
  refine X_call0 ((afft_power_spec w _).mono ?_)
  rintro _ w' ⟨rfl, rfl⟩
  cases hp : isP (l.length : Int) with
  | false =>
    simp (maxSteps := 1000000) (disch := omega) only [WS, List.getElem_cons_zero, List.getElem_cons_succ, Option.isNone_some, Option.isNone_none, List.getD_cons_zero, List.getD_cons_succ, I.at, atL, atO, atP, evp, evs, retV, ↓reduceIte, Nat.reduceEqDiff, reduceCtorEq, AS]
    exact ⟨RowKit.Below.refl _ _, Or.inr (Or.inl trivial)⟩
  | true =>
    obtain ⟨k, hk, hlk⟩ := (isP_iff _).1 hp
    have hlk : l.length = 2 ^ k := by omega
    have hp0 := Nat.two_pow_pos k
    have hp16 := pow_le16 hk
    simp (maxSteps := 1000000) (disch := omega) only [WS, List.getElem_cons_zero, List.getElem_cons_succ, Option.isNone_some, Option.isNone_none, List.getD_cons_zero, List.getD_cons_succ, I.at, atL, atO, atP, evp, evs, retV, ↓reduceIte, Nat.reduceEqDiff, reduceCtorEq, AS]
    refine X_call0 ((afft_begins_spec w' a l.length l.length (by omega)).mono ?_)
    rintro _ w ⟨rfl, rfl⟩
    cases hc : isC a l.length l.length with
    | false =>
      simp (maxSteps := 1000000) (disch := omega) only [WS, List.getElem_cons_zero, List.getElem_cons_succ, Option.isNone_some, Option.isNone_none, List.getD_cons_zero, List.getD_cons_succ, I.at, atL, atO, atP, evp, evs, retV, ↓reduceIte, Nat.reduceEqDiff, reduceCtorEq, AS]
      exact ⟨RowKit.Below.refl _ _, Or.inr (Or.inr trivial)⟩
    | true =>
      have hc2 := hc
      unfold isC at hc2
      obtain ⟨c1, c2, c3, c4⟩ := of_decide_eq_true hc2
      obtain ⟨A, rfl⟩ : ∃ A : Nat, a = (A : Int) := ⟨a.toNat, by omega⟩
      rw [Int.toNat_natCast] at c4
      rw [Int.toNat_natCast]
      rw [hlk] at c3 c4
      simp (maxSteps := 1000000) (disch := omega) only [WS, List.getElem_cons_zero, List.getElem_cons_succ, Option.isNone_some, Option.isNone_none, List.getD_cons_zero, List.getD_cons_succ, I.at, atL, atO, atP, evp, evs, retV, ↓reduceIte, Nat.reduceEqDiff, reduceCtorEq, AS]
      refine (Ow.nil w.heap.size w).Xapp h (Nat.le_refl _) (by simp only [List.length_nil, maxBytes]; omega) (by simp only [List.length_nil]; omega) fun sv w1 ov hg hnear => ?_
      rw [List.nil_append] at ov
      have hB : RowKit.Below w.heap.size w w1 := (RowKit.Below.refl _ _).grown hg (Nat.le_refl _) fun b hb => by simp [Fw.blk, Value.ownBlock] at hb
      simp (maxSteps := 1000000) (disch := omega) only [WS, List.getElem_cons_zero, List.getElem_cons_succ, Option.isNone_some, Option.isNone_none, List.getD_cons_zero, List.getD_cons_succ, I.at, atL, atO, atP, evp, evs, retV, ↓reduceIte, Nat.reduceEqDiff, reduceCtorEq, AS, hlk]
      refine X_call0 ((afft_levels_spec w1 k hk).mono ?_)
      rintro _ w' ⟨rfl, rfl⟩
      have e0 : IntKind.i64.wrap (((2 ^ k : Nat) : Int).tdiv 2) = ((2 ^ k / 2 : Nat) : Int) := by rw [show (2 : Int) = ((2 : Nat) : Int) from rfl, tdiv_nat, wrap_64 _ (by omega)]
      simp (maxSteps := 1000000) (disch := omega) only [WS, List.getElem_cons_zero, List.getElem_cons_succ, Option.isNone_some, Option.isNone_none, List.getD_cons_zero, List.getD_cons_succ, I.at, atL, atO, atP, evp, evs, retV, ↓reduceIte, Nat.reduceEqDiff, reduceCtorEq, AS, X_quo, e0, show ((2 : Int) ≠ 0) = True from eq_true (by decide)]
      have hW := Wr.own (α := El 16) w.heap.size w sv
      refine loop_of (fun t w' => t 1 = .int .i64 (A : Int) ∧ t 6 = .int .i64 ((2 ^ k : Nat) : Int) ∧ t 7 = sv ∧ ∃ (r : Nat) (m : List (El 16)), t 8 = .int .i64 ((r : Int) - 1) ∧ t 9 = .int .i64 ((2 ^ r / 2 : Nat) : Int) ∧ r ≤ k ∧ (Ow w.heap.size w' sv m ∧ RowKit.Below w.heap.size w w' ∧ w.heap.size ≤ w'.heap.size) ∧ m.length = 2 ^ k ∧
          ∀ i, i < 2 ^ k → itF A r (co m).c i = itF A k (co l).c i) (fun t _ => (toI (t 9)).toNat) ⟨by simp only [WS, List.getElem_cons_zero, List.getElem_cons_succ, Option.isNone_some, Option.isNone_none, List.getD_cons_zero, List.getD_cons_succ, I.at, atL, atO, atP, evp, evs, retV, ↓reduceIte, Nat.reduceEqDiff, reduceCtorEq], by simp only [WS, List.getElem_cons_zero, List.getElem_cons_succ, Option.isNone_some, Option.isNone_none, List.getD_cons_zero, List.getD_cons_succ, I.at, atL, atO, atP, evp, evs, retV, ↓reduceIte, Nat.reduceEqDiff, reduceCtorEq], by simp only [WS, List.getElem_cons_zero, List.getElem_cons_succ, Option.isNone_some, Option.isNone_none, List.getD_cons_zero, List.getD_cons_succ, I.at, atL, atO, atP, evp, evs, retV, ↓reduceIte, Nat.reduceEqDiff, reduceCtorEq], k, l, rfl, rfl, Nat.le_refl _, ⟨ov, hB, hB.size⟩, hlk, fun i _ => rfl⟩ ?_
      clear ov hB hg hnear
      rintro t w2 ⟨t1, t6, t7, r, m, t8, t9, hr, hm, hml, hit⟩
      cases r with
      | zero =>
        simp (maxSteps := 1000000) (disch := omega) only [WS, List.getElem_cons_zero, List.getElem_cons_succ, Option.isNone_some, Option.isNone_none, List.getD_cons_zero, List.getD_cons_succ, I.at, atL, atO, atP, evp, evs, retV, ↓reduceIte, Nat.reduceEqDiff, reduceCtorEq, AS, t1, t6, t7, t8, t9, show decide ((0 : Int) < ((2 ^ 0 / 2 : Nat) : Int)) = false from rfl]
        exact ⟨hm.2.1, Or.inl ⟨k, hk, rfl, hlk ▸ hc, sv, m, rfl, hm.1, hml, hit⟩⟩
      | succ j =>
        have hj0 := Nat.two_pow_pos j
        have hj1 : 2 ^ (j + 1) / 2 = 2 ^ j := by rw [Nat.pow_succ]; omega
        have hjk : 2 ^ j < 2 ^ k := Nat.pow_lt_pow_right (by omega) (by omega)
        have hmk := pow_mod_half (show j < k by omega)
        rw [hj1] at t9
        have e8 : ((j + 1 : Nat) : Int) - 1 = (j : Int) := by omega
        rw [e8] at t8
        simp (maxSteps := 1000000) (disch := omega) only [WS, List.getElem_cons_zero, List.getElem_cons_succ, Option.isNone_some, Option.isNone_none, List.getD_cons_zero, List.getD_cons_succ, I.at, atL, atO, atP, evp, evs, retV, ↓reduceIte, Nat.reduceEqDiff, reduceCtorEq, AS, t1, t6, t7, t8, t9]
        refine loop_of (fun t w' => t 1 = .int .i64 (A : Int) ∧ t 6 = .int .i64 ((2 ^ k : Nat) : Int) ∧ t 7 = sv ∧ t 8 = .int .i64 (j : Int) ∧ t 9 = .int .i64 ((2 ^ j : Nat) : Int) ∧ ∃ (o : Nat) (m' : List (El 16)), t 10 = .int .i64 (o : Int) ∧ o ≤ 2 ^ k ∧ o % (2 * 2 ^ j) = 0 ∧ (Ow w.heap.size w' sv m' ∧ RowKit.Below w.heap.size w w' ∧ w.heap.size ≤ w'.heap.size) ∧ m'.length = 2 ^ k ∧
            ∀ i, (co m').c i = if i < o then bfn j A (co m).c i else (co m).c i) (fun t _ => 2 ^ k - (toI (t 10)).toNat) ⟨by simp only [WS, List.getElem_cons_zero, List.getElem_cons_succ, Option.isNone_some, Option.isNone_none, List.getD_cons_zero, List.getD_cons_succ, I.at, atL, atO, atP, evp, evs, retV, ↓reduceIte, Nat.reduceEqDiff, reduceCtorEq]; exact t1, by simp only [WS, List.getElem_cons_zero, List.getElem_cons_succ, Option.isNone_some, Option.isNone_none, List.getD_cons_zero, List.getD_cons_succ, I.at, atL, atO, atP, evp, evs, retV, ↓reduceIte, Nat.reduceEqDiff, reduceCtorEq]; exact t6, by simp only [WS, List.getElem_cons_zero, List.getElem_cons_succ, Option.isNone_some, Option.isNone_none, List.getD_cons_zero, List.getD_cons_succ, I.at, atL, atO, atP, evp, evs, retV, ↓reduceIte, Nat.reduceEqDiff, reduceCtorEq]; exact t7, by simp only [WS, List.getElem_cons_zero, List.getElem_cons_succ, Option.isNone_some, Option.isNone_none, List.getD_cons_zero, List.getD_cons_succ, I.at, atL, atO, atP, evp, evs, retV, ↓reduceIte, Nat.reduceEqDiff, reduceCtorEq]; exact t8, by simp only [WS, List.getElem_cons_zero, List.getElem_cons_succ, Option.isNone_some, Option.isNone_none, List.getD_cons_zero, List.getD_cons_succ, I.at, atL, atO, atP, evp, evs, retV, ↓reduceIte, Nat.reduceEqDiff, reduceCtorEq]; exact t9, 0, m, rfl, by omega, by rw [Nat.zero_mod], hm, hml, fun i => by rw [if_neg (by omega)]⟩ ?_
        clear t1 t6 t7 t8 t9 hm
        rintro t w3 ⟨t1, t6, t7, t8, t9, o, m', t10, ho, hom, hm, hml', hco⟩
        by_cases hlt : o < 2 ^ k
        · have hle := mod0_lt (by omega) hom hmk hlt
          simp (maxSteps := 1000000) (disch := omega) only [WS, List.getElem_cons_zero, List.getElem_cons_succ, Option.isNone_some, Option.isNone_none, List.getD_cons_zero, List.getD_cons_succ, I.at, atL, atO, atP, evp, evs, retV, ↓reduceIte, Nat.reduceEqDiff, reduceCtorEq, AS, t1, t6, t7, t8, t9, t10]
          refine WP_dops ?_
          simp (maxSteps := 1000000) (disch := omega) only [ES, List.mem_cons, List.not_mem_nil, implies_true, forall_const, WS, List.getElem_cons_zero, List.getElem_cons_succ, Option.isNone_some, Option.isNone_none, List.getD_cons_zero, List.getD_cons_succ, I.at, atL, atO, atP, evp, evs, retV, ↓reduceIte, Nat.reduceEqDiff, reduceCtorEq, AS, t1, t6, t7, t8, t9, t10]
          refine E_call0 ((afft_skew_spec w3.drew j (A + o) (by omega) (by omega)).mono ?_)
          rintro _ w4 ⟨rfl, hB4⟩
          have hm4 := hW.up _ _ _ (hW.drew hm) hB4
          have hsl := hW.sl _ _ hm4
          simp (maxSteps := 1000000) (disch := omega) only [ES, List.mem_cons, List.not_mem_nil, implies_true, forall_const, WS, List.getElem_cons_zero, List.getElem_cons_succ, Option.isNone_some, Option.isNone_none, List.getD_cons_zero, List.getD_cons_succ, I.at, atL, atO, atP, evp, evs, retV, ↓reduceIte, Nat.reduceEqDiff, reduceCtorEq, AS, t1, t6, t7, t8, t9, t10, hsl.Eslc (show o ≤ o + 2 ^ j by omega) (show o + 2 ^ j ≤ m'.length by omega), hsl.Eslc (show o + 2 ^ j ≤ o + 2 * 2 ^ j by omega) (show o + 2 * 2 ^ j ≤ m'.length by omega)]
          have hcut := cut2 m' (o := o) (h := 2 ^ j) (by omega)
          generalize hpre : m'.take o = pre at hcut
          generalize hx : (m'.drop o).take (2 ^ j) = x at hcut
          generalize hy : (m'.drop (o + 2 ^ j)).take (2 ^ j) = y at hcut
          generalize hpost : m'.drop (o + 2 * 2 ^ j) = post at hcut
          have lpre : pre.length = o := by rw [← hpre, List.length_take]; omega
          have lx : x.length = 2 ^ j := by rw [← hx, List.length_take, List.length_drop]; omega
          have ly : y.length = 2 ^ j := by rw [← hy, List.length_take, List.length_drop]; omega
          obtain ⟨W1, W2⟩ := hW.win2 pre post hj0 lpre.symm
          refine E_call0 ((afft_forward_spec (M := fun a b w' => a.length = 2 ^ j ∧ b.length = 2 ^ j ∧ (Ow w.heap.size w' sv (pre ++ a ++ b ++ post) ∧ RowKit.Below w.heap.size w w' ∧ w.heap.size ≤ w'.heap.size)) (wel ((A + o) >>> j)) _ _ x y w4 W1 W2 ⟨lx, ly, hcut ▸ hm4⟩ (by omega) (by omega)).mono ?_)
          rintro _ w5 ⟨rfl, x', y', ⟨lx', ly', hm5⟩, -, -, hx', hy'⟩
          simp (maxSteps := 1000000) (disch := omega) only [ES, List.mem_cons, List.not_mem_nil, implies_true, forall_const, WS, List.getElem_cons_zero, List.getElem_cons_succ, Option.isNone_some, Option.isNone_none, List.getD_cons_zero, List.getD_cons_succ, I.at, atL, atO, atP, evp, evs, retV, ↓reduceIte, Nat.reduceEqDiff, reduceCtorEq, AS, t1, t6, t7, t8, t9, t10]
          have hxi : ∀ i, i < 2 ^ j → (co x).c i = (co m').c (o + i) := fun i hi => by rw [← hx, co_takeL, if_pos hi, co_drop]
          have hyi : ∀ i, i < 2 ^ j → (co y).c i = (co m').c (o + 2 ^ j + i) := fun i hi => by rw [← hy, co_takeL, if_pos hi, co_drop]
          have hlen5 : (pre ++ x' ++ y' ++ post).length = 2 ^ k := by
            have h1 : (pre ++ x ++ y ++ post).length = 2 ^ k := by rw [← hcut, hml']
            simp only [List.length_append] at h1 ⊢; omega
          refine ⟨⟨o + 2 * 2 ^ j, _, rfl, by omega, by rw [Nat.add_mod, hom, Nat.zero_add, Nat.mod_self, Nat.zero_mod], hm5, hlen5, fun i => ?_⟩, by omega⟩
          have hold := hco
          by_cases hi1 : i < o
          · rw [if_pos (by omega), co_app, if_pos (by simp only [List.length_append]; omega), co_app, if_pos (by simp only [List.length_append]; omega), co_app, if_pos (by omega), ← hpre, co_takeL, if_pos hi1, hco i, if_pos hi1]
          · by_cases hi2 : i < o + 2 * 2 ^ j
            · rw [if_pos hi2, bfn_piece hom i (by omega) hi2]
              by_cases hi3 : i < o + 2 ^ j
              · rw [if_pos hi3, co_app, if_pos (by simp only [List.length_append]; omega), co_app, if_pos (by simp only [List.length_append]; omega), co_app, if_neg (by omega), hx', hxi _ (by omega), hyi _ (by omega), hco, hco, if_neg (by omega), if_neg (by omega), lpre, show o + (i - o) = i by omega, show o + 2 ^ j + (i - o) = i + 2 ^ j by omega]
              · rw [if_neg hi3, co_app, if_pos (by simp only [List.length_append]; omega), co_app, if_neg (by simp only [List.length_append]; omega), hy', hxi _ (by simp only [List.length_append]; omega), hyi _ (by simp only [List.length_append]; omega), hco, hco, if_neg (by simp only [List.length_append]; omega), if_neg (by simp only [List.length_append]; omega)]
                simp only [List.length_append, lpre, lx']
                rw [show o + (i - (o + 2 ^ j)) = i - 2 ^ j by omega, show o + 2 ^ j + (i - (o + 2 ^ j)) = i by omega]
            · rw [if_neg hi2, co_app, if_neg (by simp only [List.length_append]; omega), ← hpost, co_drop, hco, if_neg (by simp only [List.length_append]; omega)]
              simp only [List.length_append, lpre, lx', ly']
              rw [show o + 2 * 2 ^ j + (i - (o + 2 ^ j + 2 ^ j)) = i by omega]
        · obtain rfl : o = 2 ^ k := by omega
          have e2 : IntKind.i64.wrap (((2 ^ j : Nat) : Int).tdiv 2) = ((2 ^ j / 2 : Nat) : Int) := by rw [show (2 : Int) = ((2 : Nat) : Int) from rfl, tdiv_nat, wrap_64 _ (by omega)]
          have e1 : IntKind.i64.wrap ((j : Int) - 1) = (j : Int) - 1 := wrap_id (by omega) (by omega)
          simp (maxSteps := 1000000) (disch := omega) only [WS, List.getElem_cons_zero, List.getElem_cons_succ, Option.isNone_some, Option.isNone_none, List.getD_cons_zero, List.getD_cons_succ, I.at, atL, atO, atP, evp, evs, retV, ↓reduceIte, Nat.reduceEqDiff, reduceCtorEq, decide_eq_false, t1, t6, t7, t8, t9, t10, X_quo, e1, e2, show ((2 : Int) ≠ 0) = True from eq_true (by decide), toI_int]
          refine ⟨⟨j, m', rfl, rfl, by omega, hm, hml', fun i hi => ?_⟩, by omega⟩
          rw [← hit i hi]
          exact itF_loc (n := 2 ^ k) (Nat.mod_eq_zero_of_dvd (Nat.pow_dvd_pow 2 (show j ≤ k by omega))) (fun i hi => by rw [hco i, if_pos hi]) i hi
end Go.Proofs.Ytikaanmmdemaiaa.Fw
