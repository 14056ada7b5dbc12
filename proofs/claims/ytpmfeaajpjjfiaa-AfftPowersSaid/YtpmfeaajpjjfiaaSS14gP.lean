import Derived.Test.YtpmfeaajpjjfiaaProg
import Derived.Test.YtpmfeaajpjjfiaaFwTP
import Derived.Test.YtpmfeaajpjjfiaaSS14eP
set_option linter.all false
set_option linter.unusedVariables false
set_option linter.unusedSimpArgs false
set_option maxRecDepth 100000
set_option maxHeartbeats 1000000
namespace Go.Proofs.Ytpmfeaajpjjfiaa.Fw
open Go Go.Fw Go.Proofs
attribute [local irreducible] stepI
def c_afft_Inverse : C := .seq (.ops [⟨0, (some 4), none, .mov (.c (.slice none 0 0)), []⟩, ⟨1, (some 5), none, .mov (.c (.int .i64 0)), []⟩]) (.seq (.ops [⟨0, (some 11), none, .mov (.t 0), []⟩, ⟨1, (some 12), none, .len (.t 11), []⟩, ⟨2, (some 6), none, .mov (.t 12), []⟩]) (.seq (.block 0 (.seq (.ops [⟨0, (some 14), none, .mov (.t 6), []⟩, ⟨1, (some 15), none, .call (.c (.func (.func 34) #[] #[])) [.t 14], []⟩, ⟨2, (some 16), none, .un .not (.t 15), []⟩, ⟨3, (some 13), none, .mov (.t 16), []⟩]) (.ite (.t 13) (.seq (.ops [⟨0, (some 4), none, .mov (.c (.slice none 0 0)), []⟩, ⟨1, (some 5), none, .mov (.c (.int .i64 130)), []⟩]) .ret) (.seq (.ops [⟨0, (some 18), none, .mov (.t 1), []⟩, ⟨1, (some 19), none, .mov (.t 6), []⟩, ⟨2, (some 20), none, .mov (.t 6), []⟩, ⟨3, (some 21), none, .call (.c (.func (.func 35) #[] #[])) [.t 18, .t 19, .t 20], []⟩, ⟨4, (some 22), none, .un .not (.t 21), []⟩, ⟨5, (some 17), none, .mov (.t 22), []⟩]) (.ite (.t 17) (.seq (.ops [⟨0, (some 4), none, .mov (.c (.slice none 0 0)), []⟩, ⟨1, (some 5), none, .mov (.c (.int .i64 140)), []⟩]) .ret) .skip))))) (.seq (.ops [⟨0, (some 23), none, .mov (.t 0), []⟩, ⟨1, (some 24), none, .app 31 2 [.int .u16 0] (.c (.slice none 0 0)) (.t 23), []⟩, ⟨2, (some 7), none, .mov (.t 24), []⟩]) (.seq (.seq (.ops [⟨0, (some 8), none, .mov (.c (.int .i64 0)), []⟩, ⟨1, (some 9), none, .mov (.c (.int .i64 1)), []⟩]) (.block 1 (.loop (.seq (.seq (.ops [⟨0, (some 25), none, .mov (.t 9), []⟩, ⟨1, (some 26), none, .mov (.t 6), []⟩, ⟨2, (some 27), none, .bin .lss (.t 25) (.t 26), []⟩]) (.ite (.t 27) .skip (.exit 1))) (.seq (.block 2 (.seq (.ops [⟨0, (some 10), none, .mov (.c (.int .i64 0)), []⟩]) (.block 3 (.loop (.seq (.seq (.ops [⟨0, (some 32), none, .mov (.t 10), []⟩, ⟨1, (some 33), none, .mov (.t 6), []⟩, ⟨2, (some 34), none, .bin .lss (.t 32) (.t 33), []⟩]) (.ite (.t 34) .skip (.exit 3))) (.seq (.block 4 (.dops [⟨0, (some 39), none, .mov (.t 8), []⟩, ⟨1, (some 40), none, .mov (.t 1), []⟩, ⟨2, (some 41), none, .mov (.t 10), []⟩, ⟨3, (some 42), none, .bin .add (.t 40) (.t 41), []⟩, ⟨4, (some 43), none, .call (.c (.func (.func 37) #[] #[])) [.t 39, .t 42], []⟩, ⟨5, (some 44), none, .mov (.t 7), []⟩, ⟨6, (some 45), none, .mov (.t 10), []⟩, ⟨7, (some 46), none, .mov (.t 10), []⟩, ⟨8, (some 47), none, .mov (.t 9), []⟩, ⟨9, (some 48), none, .bin .add (.t 46) (.t 47), []⟩, ⟨10, (some 49), none, .slc 1 (.t 44) (some (.t 45)) (some (.t 48)) none, []⟩, ⟨11, (some 50), none, .mov (.t 7), []⟩, ⟨12, (some 51), none, .mov (.t 10), []⟩, ⟨13, (some 52), none, .mov (.t 9), []⟩, ⟨14, (some 53), none, .bin .add (.t 51) (.t 52), []⟩, ⟨15, (some 54), none, .mov (.t 10), []⟩, ⟨16, (some 55), none, .mov (.t 9), []⟩, ⟨17, (some 56), none, .bin .mul (.c (.int .i64 2)) (.t 55), []⟩, ⟨18, (some 57), none, .bin .add (.t 54) (.t 56), []⟩, ⟨19, (some 58), none, .slc 1 (.t 50) (some (.t 53)) (some (.t 57)) none, []⟩, ⟨20, (some 59), none, .call (.c (.func (.func 36) #[] #[])) [.t 43, .t 49, .t 58], []⟩])) (.ops [⟨0, (some 35), none, .mov (.t 10), []⟩, ⟨1, (some 36), none, .mov (.t 9), []⟩, ⟨2, (some 37), none, .bin .mul (.c (.int .i64 2)) (.t 36), []⟩, ⟨3, (some 38), none, .bin .add (.t 35) (.t 37), []⟩, ⟨4, (some 10), none, .mov (.t 38), []⟩]))))))) (.ops [⟨0, (some 28), none, .mov (.t 8), []⟩, ⟨1, (some 29), none, .bin .add (.t 28) (.c (.int .i64 1)), []⟩, ⟨2, (some 30), none, .mov (.t 9), []⟩, ⟨3, (some 31), none, .bin .mul (.c (.int .i64 2)) (.t 30), []⟩, ⟨4, (some 8), none, .mov (.t 29), []⟩, ⟨5, (some 9), none, .mov (.t 31), []⟩])))))) (.seq (.ops [⟨0, (some 60), none, .mov (.t 7), []⟩, ⟨1, (some 4), none, .mov (.t 60), []⟩, ⟨2, (some 5), none, .mov (.c (.int .i64 0)), []⟩]) .ret)))))
attribute [irreducible] c_afft_Inverse
theorem run_afft_Inverse {args : List Value} {w : World} {K : Value → World → Prop} (hn : args.length ≤ 61) (h : WP Try.prog c_afft_Inverse (endQ [.t 4, .t 5] K) (initT args) w) : CallV Try.prog 17 args w K :=
  call_of follows Try.func17 (by kernel_rfl) (by kernel_rfl) hn h
end Go.Proofs.Ytpmfeaajpjjfiaa.Fw
namespace Go.Proofs.Ytpmfeaajpjjfiaa.Fw
open Go Go.Fw
theorem afft_Inverse_spec (w : World) (s : Value) (l : List (El 16)) (a : Int) (h : Sl w s l) (hb : l.length ≤ 70368744175616) :
    CallV Try.prog 17 [s, .int .i64 a] w fun v w' => RowKit.Below w.heap.size w w' ∧ ((∃ k, k ≤ 16 ∧ l.length = 2 ^ k ∧ isC a (2 ^ k) (2 ^ k) = true ∧ ∃ sv m, v = .tuple #[sv, .int .i64 0] ∧ Ow w.heap.size w' sv m ∧ m.length = l.length ∧ ∀ i, i < 2 ^ k → (co m).c i = itI a.toNat k (co l).c i) ∨
      (isP (l.length : Int) = false ∧ v = .tuple #[.slice none 0 0, .int .i64 130]) ∨ (isP (l.length : Int) = true ∧ isC a l.length l.length = false ∧ v = .tuple #[.slice none 0 0, .int .i64 140])) := by
  refine run_afft_Inverse (by simp) ?_
  simp only [c_afft_Inverse, WS, List.getElem_cons_zero, List.getElem_cons_succ, Option.isNone_some, Option.isNone_none, List.getD_cons_zero, List.getD_cons_succ, I.at, atL, atO, atP, evp, evs, retV, ↓reduceIte, Nat.reduceEqDiff, reduceCtorEq, h.Xlen]
  refine X_call0 ((afft_power_spec w _).mono ?_)
  rintro _ w' ⟨rfl, rfl⟩
  cases hp : isP (l.length : Int) with
  | false =>
    simp (maxSteps := 1000000) (disch := omega) only [WS, List.getElem_cons_zero, List.getElem_cons_succ, Option.isNone_some, Option.isNone_none, List.getD_cons_zero, List.getD_cons_succ, I.at, atL, atO, atP, evp, evs, retV, ↓reduceIte, Nat.reduceEqDiff, reduceCtorEq, AS]
    exact ⟨RowKit.Below.refl _ _, Or.inr (Or.inl trivial)⟩
  | true =>
    obtain ⟨k, hk, hlk⟩ := (isP_iff _).1 hp
    have hlk : l.length = 2 ^ k := by omega
    have hp0 := Nat.two_pow_pos k
    have hp16 := pow_le16 hk
    simp (maxSteps := 1000000) (disch := omega) only [WS, List.getElem_cons_zero, List.getElem_cons_succ, Option.isNone_some, Option.isNone_none, List.getD_cons_zero, List.getD_cons_succ, I.at, atL, atO, atP, evp, evs, retV, ↓reduceIte, Nat.reduceEqDiff, reduceCtorEq, AS]
    refine X_call0 ((afft_begins_spec w' a l.length l.length (by omega)).mono ?_)
    rintro _ w ⟨rfl, rfl⟩
    cases hc : isC a l.length l.length with
    | false =>
      simp (maxSteps := 1000000) (disch := omega) only [WS, List.getElem_cons_zero, List.getElem_cons_succ, Option.isNone_some, Option.isNone_none, List.getD_cons_zero, List.getD_cons_succ, I.at, atL, atO, atP, evp, evs, retV, ↓reduceIte, Nat.reduceEqDiff, reduceCtorEq, AS]
      exact ⟨RowKit.Below.refl _ _, Or.inr (Or.inr trivial)⟩
    | true =>
      have hc2 := hc
      unfold isC at hc2
      obtain ⟨c1, c2, c3, c4⟩ := of_decide_eq_true hc2
      obtain ⟨A, rfl⟩ : ∃ A : Nat, a = (A : Int) := ⟨a.toNat, by omega⟩
      rw [Int.toNat_natCast] at c4
      rw [Int.toNat_natCast]
      rw [hlk] at c3 c4
      simp (maxSteps := 1000000) (disch := omega) only [WS, List.getElem_cons_zero, List.getElem_cons_succ, Option.isNone_some, Option.isNone_none, List.getD_cons_zero, List.getD_cons_succ, I.at, atL, atO, atP, evp, evs, retV, ↓reduceIte, Nat.reduceEqDiff, reduceCtorEq, AS]
      refine (Ow.nil w.heap.size w).Xapp h (Nat.le_refl _) (by simp only [List.length_nil, maxBytes]; omega) (by simp only [List.length_nil]; omega) fun sv w1 ov hg hnear => ?_
      rw [List.nil_append] at ov
      have hB : RowKit.Below w.heap.size w w1 := (RowKit.Below.refl _ _).grown hg (Nat.le_refl _) fun b hb => by simp [Fw.blk, Value.ownBlock] at hb
      simp (maxSteps := 1000000) (disch := omega) only [WS, List.getElem_cons_zero, List.getElem_cons_succ, Option.isNone_some, Option.isNone_none, List.getD_cons_zero, List.getD_cons_succ, I.at, atL, atO, atP, evp, evs, retV, ↓reduceIte, Nat.reduceEqDiff, reduceCtorEq, AS, hlk]
      have hW := Wr.own (α := El 16) w.heap.size w sv
      refine loop_of (fun t w' => t 1 = .int .i64 (A : Int) ∧ t 6 = .int .i64 ((2 ^ k : Nat) : Int) ∧ t 7 = sv ∧ ∃ (j : Nat) (m : List (El 16)), t 8 = .int .i64 (j : Int) ∧ t 9 = .int .i64 ((2 ^ j : Nat) : Int) ∧ j ≤ k ∧ (Ow w.heap.size w' sv m ∧ RowKit.Below w.heap.size w w' ∧ w.heap.size ≤ w'.heap.size) ∧ m.length = 2 ^ k ∧
          ∀ i, i < 2 ^ k → (co m).c i = itI A j (co l).c i) (fun t _ => 2 ^ k - (toI (t 9)).toNat) ⟨by simp only [WS, List.getElem_cons_zero, List.getElem_cons_succ, Option.isNone_some, Option.isNone_none, List.getD_cons_zero, List.getD_cons_succ, I.at, atL, atO, atP, evp, evs, retV, ↓reduceIte, Nat.reduceEqDiff, reduceCtorEq], by simp only [WS, List.getElem_cons_zero, List.getElem_cons_succ, Option.isNone_some, Option.isNone_none, List.getD_cons_zero, List.getD_cons_succ, I.at, atL, atO, atP, evp, evs, retV, ↓reduceIte, Nat.reduceEqDiff, reduceCtorEq], by simp only [WS, List.getElem_cons_zero, List.getElem_cons_succ, Option.isNone_some, Option.isNone_none, List.getD_cons_zero, List.getD_cons_succ, I.at, atL, atO, atP, evp, evs, retV, ↓reduceIte, Nat.reduceEqDiff, reduceCtorEq], 0, l, by simp only [WS, List.getElem_cons_zero, List.getElem_cons_succ, Option.isNone_some, Option.isNone_none, List.getD_cons_zero, List.getD_cons_succ, I.at, atL, atO, atP, evp, evs, retV, ↓reduceIte, Nat.reduceEqDiff, reduceCtorEq]; rfl, by simp only [WS, List.getElem_cons_zero, List.getElem_cons_succ, Option.isNone_some, Option.isNone_none, List.getD_cons_zero, List.getD_cons_succ, I.at, atL, atO, atP, evp, evs, retV, ↓reduceIte, Nat.reduceEqDiff, reduceCtorEq]; rfl, by omega, ⟨ov, hB, hB.size⟩, hlk, fun i _ => rfl⟩ ?_
      clear ov hB hg hnear
      rintro t w2 ⟨t1, t6, t7, j, m, t8, t9, hj, hm, hml, hit⟩
      by_cases hjk' : j = k
      · subst hjk'
        simp (maxSteps := 1000000) (disch := omega) only [WS, List.getElem_cons_zero, List.getElem_cons_succ, Option.isNone_some, Option.isNone_none, List.getD_cons_zero, List.getD_cons_succ, I.at, atL, atO, atP, evp, evs, retV, ↓reduceIte, Nat.reduceEqDiff, reduceCtorEq, AS, t1, t6, t7, t8, t9]
        exact ⟨hm.2.1, Or.inl ⟨j, hk, rfl, hlk ▸ hc, sv, m, rfl, hm.1, hml, hit⟩⟩
      · have hj0 := Nat.two_pow_pos j
        have hjk : 2 ^ j < 2 ^ k := Nat.pow_lt_pow_right (by omega) (by omega)
        have hmk := pow_mod_half (show j < k by omega)
        simp (maxSteps := 1000000) (disch := omega) only [WS, List.getElem_cons_zero, List.getElem_cons_succ, Option.isNone_some, Option.isNone_none, List.getD_cons_zero, List.getD_cons_succ, I.at, atL, atO, atP, evp, evs, retV, ↓reduceIte, Nat.reduceEqDiff, reduceCtorEq, AS, t1, t6, t7, t8, t9]
        refine loop_of (fun t w' => t 1 = .int .i64 (A : Int) ∧ t 6 = .int .i64 ((2 ^ k : Nat) : Int) ∧ t 7 = sv ∧ t 8 = .int .i64 (j : Int) ∧ t 9 = .int .i64 ((2 ^ j : Nat) : Int) ∧ ∃ (o : Nat) (m' : List (El 16)), t 10 = .int .i64 (o : Int) ∧ o ≤ 2 ^ k ∧ o % (2 * 2 ^ j) = 0 ∧ (Ow w.heap.size w' sv m' ∧ RowKit.Below w.heap.size w w' ∧ w.heap.size ≤ w'.heap.size) ∧ m'.length = 2 ^ k ∧
            ∀ i, (co m').c i = if i < o then bin' j A (co m).c i else (co m).c i) (fun t _ => 2 ^ k - (toI (t 10)).toNat) ⟨by simp only [WS, List.getElem_cons_zero, List.getElem_cons_succ, Option.isNone_some, Option.isNone_none, List.getD_cons_zero, List.getD_cons_succ, I.at, atL, atO, atP, evp, evs, retV, ↓reduceIte, Nat.reduceEqDiff, reduceCtorEq]; exact t1, by simp only [WS, List.getElem_cons_zero, List.getElem_cons_succ, Option.isNone_some, Option.isNone_none, List.getD_cons_zero, List.getD_cons_succ, I.at, atL, atO, atP, evp, evs, retV, ↓reduceIte, Nat.reduceEqDiff, reduceCtorEq]; exact t6, by simp only [WS, List.getElem_cons_zero, List.getElem_cons_succ, Option.isNone_some, Option.isNone_none, List.getD_cons_zero, List.getD_cons_succ, I.at, atL, atO, atP, evp, evs, retV, ↓reduceIte, Nat.reduceEqDiff, reduceCtorEq]; exact t7, by simp only [WS, List.getElem_cons_zero, List.getElem_cons_succ, Option.isNone_some, Option.isNone_none, List.getD_cons_zero, List.getD_cons_succ, I.at, atL, atO, atP, evp, evs, retV, ↓reduceIte, Nat.reduceEqDiff, reduceCtorEq]; exact t8, by simp only [WS, List.getElem_cons_zero, List.getElem_cons_succ, Option.isNone_some, Option.isNone_none, List.getD_cons_zero, List.getD_cons_succ, I.at, atL, atO, atP, evp, evs, retV, ↓reduceIte, Nat.reduceEqDiff, reduceCtorEq]; exact t9, 0, m, rfl, by omega, by rw [Nat.zero_mod], hm, hml, fun i => by rw [if_neg (by omega)]⟩ ?_
        clear t1 t6 t7 t8 t9 hm
        rintro t w3 ⟨t1, t6, t7, t8, t9, o, m', t10, ho, hom, hm, hml', hco⟩
        by_cases hlt : o < 2 ^ k
        · have hle := mod0_lt (by omega) hom hmk hlt
          simp (maxSteps := 1000000) (disch := omega) only [WS, List.getElem_cons_zero, List.getElem_cons_succ, Option.isNone_some, Option.isNone_none, List.getD_cons_zero, List.getD_cons_succ, I.at, atL, atO, atP, evp, evs, retV, ↓reduceIte, Nat.reduceEqDiff, reduceCtorEq, AS, t1, t6, t7, t8, t9, t10]
          refine WP_dops ?_
          simp (maxSteps := 1000000) (disch := omega) only [ES, List.mem_cons, List.not_mem_nil, implies_true, forall_const, WS, List.getElem_cons_zero, List.getElem_cons_succ, Option.isNone_some, Option.isNone_none, List.getD_cons_zero, List.getD_cons_succ, I.at, atL, atO, atP, evp, evs, retV, ↓reduceIte, Nat.reduceEqDiff, reduceCtorEq, AS, t1, t6, t7, t8, t9, t10]
          refine E_call0 ((afft_skew_spec w3.drew j (A + o) (by omega) (by omega)).mono ?_)
          rintro _ w4 ⟨rfl, hB4⟩
          have hm4 := hW.up _ _ _ (hW.drew hm) hB4
          have hsl := hW.sl _ _ hm4
          simp (maxSteps := 1000000) (disch := omega) only [ES, List.mem_cons, List.not_mem_nil, implies_true, forall_const, WS, List.getElem_cons_zero, List.getElem_cons_succ, Option.isNone_some, Option.isNone_none, List.getD_cons_zero, List.getD_cons_succ, I.at, atL, atO, atP, evp, evs, retV, ↓reduceIte, Nat.reduceEqDiff, reduceCtorEq, AS, t1, t6, t7, t8, t9, t10, hsl.Eslc (show o ≤ o + 2 ^ j by omega) (show o + 2 ^ j ≤ m'.length by omega), hsl.Eslc (show o + 2 ^ j ≤ o + 2 * 2 ^ j by omega) (show o + 2 * 2 ^ j ≤ m'.length by omega)]
          have hcut := cut2 m' (o := o) (h := 2 ^ j) (by omega)
          generalize hpre : m'.take o = pre at hcut
          generalize hx : (m'.drop o).take (2 ^ j) = x at hcut
          generalize hy : (m'.drop (o + 2 ^ j)).take (2 ^ j) = y at hcut
          generalize hpost : m'.drop (o + 2 * 2 ^ j) = post at hcut
          have lpre : pre.length = o := by rw [← hpre, List.length_take]; omega
          have lx : x.length = 2 ^ j := by rw [← hx, List.length_take, List.length_drop]; omega
          have ly : y.length = 2 ^ j := by rw [← hy, List.length_take, List.length_drop]; omega
          obtain ⟨W1, W2⟩ := hW.win2 pre post hj0 lpre.symm
          refine E_call0 ((afft_inverse_spec (M := fun a b w' => a.length = 2 ^ j ∧ b.length = 2 ^ j ∧ (Ow w.heap.size w' sv (pre ++ a ++ b ++ post) ∧ RowKit.Below w.heap.size w w' ∧ w.heap.size ≤ w'.heap.size)) (wel ((A + o) >>> j)) _ _ x y w4 W1 W2 ⟨lx, ly, hcut ▸ hm4⟩ (by omega) (by omega)).mono ?_)
          rintro _ w5 ⟨rfl, x', y', ⟨lx', ly', hm5⟩, -, -, hx', hy'⟩
          simp (maxSteps := 1000000) (disch := omega) only [ES, List.mem_cons, List.not_mem_nil, implies_true, forall_const, WS, List.getElem_cons_zero, List.getElem_cons_succ, Option.isNone_some, Option.isNone_none, List.getD_cons_zero, List.getD_cons_succ, I.at, atL, atO, atP, evp, evs, retV, ↓reduceIte, Nat.reduceEqDiff, reduceCtorEq, AS, t1, t6, t7, t8, t9, t10]
          have hxi : ∀ i, i < 2 ^ j → (co x).c i = (co m').c (o + i) := fun i hi => by rw [← hx, co_takeL, if_pos hi, co_drop]
          have hyi : ∀ i, i < 2 ^ j → (co y).c i = (co m').c (o + 2 ^ j + i) := fun i hi => by rw [← hy, co_takeL, if_pos hi, co_drop]
          have hlen5 : (pre ++ x' ++ y' ++ post).length = 2 ^ k := by
            have h1 : (pre ++ x ++ y ++ post).length = 2 ^ k := by rw [← hcut, hml']
            simp only [List.length_append] at h1 ⊢; omega
          refine ⟨⟨o + 2 * 2 ^ j, _, rfl, by omega, by rw [Nat.add_mod, hom, Nat.zero_add, Nat.mod_self, Nat.zero_mod], hm5, hlen5, fun i => ?_⟩, by omega⟩
          have hold := hco
          by_cases hi1 : i < o
          · rw [if_pos (by omega), co_app, if_pos (by simp only [List.length_append]; omega), co_app, if_pos (by simp only [List.length_append]; omega), co_app, if_pos (by omega), ← hpre, co_takeL, if_pos hi1, hco i, if_pos hi1]
          · by_cases hi2 : i < o + 2 * 2 ^ j
            · rw [if_pos hi2, bin_piece hom i (by omega) hi2]
              by_cases hi3 : i < o + 2 ^ j
              · rw [if_pos hi3, co_app, if_pos (by simp only [List.length_append]; omega), co_app, if_pos (by simp only [List.length_append]; omega), co_app, if_neg (by omega), hx', hxi _ (by omega), hyi _ (by omega), hco, hco, if_neg (by omega), if_neg (by omega), lpre, show o + (i - o) = i by omega, show o + 2 ^ j + (i - o) = i + 2 ^ j by omega]
              · rw [if_neg hi3, co_app, if_pos (by simp only [List.length_append]; omega), co_app, if_neg (by simp only [List.length_append]; omega), hy', hxi _ (by simp only [List.length_append]; omega), hyi _ (by simp only [List.length_append]; omega), hco, hco, if_neg (by simp only [List.length_append]; omega), if_neg (by simp only [List.length_append]; omega)]
                simp only [List.length_append, lpre, lx']
                rw [show o + (i - (o + 2 ^ j)) = i - 2 ^ j by omega, show o + 2 ^ j + (i - (o + 2 ^ j)) = i by omega]
            · rw [if_neg hi2, co_app, if_neg (by simp only [List.length_append]; omega), ← hpost, co_drop, hco, if_neg (by simp only [List.length_append]; omega)]
              simp only [List.length_append, lpre, lx', ly']
              rw [show o + 2 * 2 ^ j + (i - (o + 2 ^ j + 2 ^ j)) = i by omega]
        · obtain rfl : o = 2 ^ k := by omega
          have h2k : 2 ^ (j + 1) = 2 * 2 ^ j := by rw [Nat.pow_succ, Nat.mul_comm]
          simp (maxSteps := 1000000) (disch := omega) only [WS, List.getElem_cons_zero, List.getElem_cons_succ, Option.isNone_some, Option.isNone_none, List.getD_cons_zero, List.getD_cons_succ, I.at, atL, atO, atP, evp, evs, retV, ↓reduceIte, Nat.reduceEqDiff, reduceCtorEq, AS, t1, t6, t7, t8, t9, t10]
          refine ⟨⟨j + 1, m', rfl, by rw [h2k], by omega, hm, hml', fun i hi => ?_⟩, by simp only [Int.toNat_natCast]; omega⟩
          rw [hco i, if_pos hi]
          exact bin_loc (n := 2 ^ k) hmk (fun i hi => hit i hi) i hi
end Go.Proofs.Ytpmfeaajpjjfiaa.Fw

set_option linter.unusedVariables false
set_option linter.unusedSimpArgs false
set_option maxRecDepth 100000
set_option maxHeartbeats 1000000
namespace Go.Proofs.Ytpmfeaajpjjfiaa.Fw
open Go Go.Fw Go.Proofs
attribute [local irreducible] stepI
def c_afft_Fold : C := .seq (.ops [⟨0, (some 6), none, .mov (.c (.slice none 0 0)), []⟩, ⟨1, (some 7), none, .mov (.c (.int .i64 0)), []⟩]) (.seq (.block 0 (.seq (.ops [⟨0, (some 15), none, .mov (.t 1), []⟩, ⟨1, (some 16), none, .call (.c (.func (.func 34) #[] #[])) [.t 15], []⟩, ⟨2, (some 17), none, .un .not (.t 16), []⟩, ⟨3, (some 14), none, .mov (.t 17), []⟩]) (.ite (.t 14) (.seq (.ops [⟨0, (some 6), none, .mov (.c (.slice none 0 0)), []⟩, ⟨1, (some 7), none, .mov (.c (.int .i64 130)), []⟩]) .ret) (.seq (.ops [⟨0, (some 19), none, .mov (.t 0), []⟩, ⟨1, (some 20), none, .len (.t 19), []⟩, ⟨2, (some 21), none, .bin .eql (.t 20) (.c (.int .i64 0)), []⟩, ⟨3, (some 22), none, .mov (.t 21), []⟩, ⟨4, (some 23), (some (22, false)), .mov (.t 0), []⟩, ⟨5, (some 24), (some (22, false)), .len (.t 23), []⟩, ⟨6, (some 25), (some (22, false)), .mov (.t 1), []⟩, ⟨7, (some 26), (some (22, false)), .bin .rem (.t 24) (.t 25), []⟩, ⟨8, (some 27), (some (22, false)), .bin .neq (.t 26) (.c (.int .i64 0)), []⟩, ⟨9, (some 28), none, .pick (.t 22) (.c (.bool true)) (.t 27), []⟩, ⟨10, (some 18), none, .mov (.t 28), []⟩]) (.ite (.t 18) (.seq (.ops [⟨0, (some 6), none, .mov (.c (.slice none 0 0)), []⟩, ⟨1, (some 7), none, .mov (.c (.int .i64 6)), []⟩]) .ret) (.seq (.ops [⟨0, (some 30), none, .mov (.t 2), []⟩, ⟨1, (some 31), none, .mov (.t 1), []⟩, ⟨2, (some 32), none, .mov (.t 0), []⟩, ⟨3, (some 33), none, .len (.t 32), []⟩, ⟨4, (some 34), none, .call (.c (.func (.func 35) #[] #[])) [.t 30, .t 31, .t 33], []⟩, ⟨5, (some 35), none, .un .not (.t 34), []⟩, ⟨6, (some 29), none, .mov (.t 35), []⟩]) (.ite (.t 29) (.seq (.ops [⟨0, (some 6), none, .mov (.c (.slice none 0 0)), []⟩, ⟨1, (some 7), none, .mov (.c (.int .i64 140)), []⟩]) .ret) .skip))))))) (.seq (.ops [⟨0, (some 36), none, .mov (.t 1), []⟩, ⟨1, (some 37), none, .mks 31 2 [.int .u16 0] (.t 36) (.t 36), []⟩, ⟨2, (some 8), none, .mov (.t 37), []⟩]) (.seq (.seq (.ops [⟨0, (some 9), none, .mov (.c (.int .i64 0)), []⟩]) (.block 1 (.loop (.seq (.seq (.ops [⟨0, (some 38), none, .mov (.t 9), []⟩, ⟨1, (some 39), none, .mov (.t 0), []⟩, ⟨2, (some 40), none, .len (.t 39), []⟩, ⟨3, (some 41), none, .bin .lss (.t 38) (.t 40), []⟩]) (.ite (.t 41) .skip (.exit 1))) (.seq (.block 2 (.seq (.ops [⟨0, (some 46), none, .mov (.t 0), []⟩, ⟨1, (some 47), none, .mov (.t 9), []⟩, ⟨2, (some 48), none, .mov (.t 9), []⟩, ⟨3, (some 49), none, .mov (.t 1), []⟩, ⟨4, (some 50), none, .bin .add (.t 48) (.t 49), []⟩, ⟨5, (some 51), none, .slc 1 (.t 46) (some (.t 47)) (some (.t 50)) none, []⟩, ⟨6, (some 52), none, .mov (.t 2), []⟩, ⟨7, (some 53), none, .mov (.t 9), []⟩, ⟨8, (some 54), none, .bin .add (.t 52) (.t 53), []⟩, ⟨9, (some 55), none, .call (.c (.func (.func 17) #[] #[])) [.t 51, .t 54], []⟩, ⟨10, (some 45), none, .mov (.t 55), []⟩, ⟨11, (some 56), none, .ext (.t 45) 0, []⟩, ⟨12, (some 57), none, .ext (.t 45) 1, []⟩, ⟨13, (some 10), none, .mov (.t 56), []⟩, ⟨14, (some 11), none, .mov (.t 57), []⟩]) (.seq (.seq (.ops [⟨0, (some 58), none, .mov (.t 11), []⟩, ⟨1, (some 59), none, .bin .neq (.t 58) (.c (.int .i64 0)), []⟩]) (.ite (.t 59) (.seq (.ops [⟨0, (some 60), none, .mov (.t 11), []⟩, ⟨1, (some 6), none, .mov (.c (.slice none 0 0)), []⟩, ⟨2, (some 7), none, .mov (.t 60), []⟩]) .ret) .skip)) (.seq (.ops [⟨0, (some 61), none, .mov (.t 10), []⟩, ⟨1, (some 62), none, .len (.t 61), []⟩, ⟨2, (some 63), none, .mov (.c (.int .i64 0)), []⟩]) (.block 3 (.loop (.seq (.ops [⟨0, (some 64), none, .bin .lss (.t 63) (.t 62), []⟩]) (.seq (.ite (.t 64) .skip (.exit 3)) (.seq (.block 4 (.seq (.ops [⟨0, (some 65), none, .mov (.t 63), []⟩, ⟨1, (some 66), none, .ixs 1 (.t 61) (.t 63), []⟩, ⟨2, (some 67), none, .ld (.t 66), []⟩, ⟨3, (some 12), none, .mov (.t 65), []⟩, ⟨4, (some 13), none, .mov (.t 67), []⟩]) (.ops [⟨0, (some 68), none, .mov (.t 8), []⟩, ⟨1, (some 69), none, .mov (.t 12), []⟩, ⟨2, (some 70), none, .ixs 1 (.t 68) (.t 69), []⟩, ⟨3, (some 71), none, .ld (.t 70), []⟩, ⟨4, (some 72), none, .mov (.t 13), []⟩, ⟨5, (some 73), none, .bin .xor (.t 71) (.t 72), []⟩, ⟨6, (some 74), none, .ixs 1 (.t 68) (.t 69), []⟩, ⟨7, none, none, .st (.t 74) (.t 73), []⟩]))) (.ops [⟨0, (some 75), none, .bin .add (.t 63) (.c (.int .i64 1)), []⟩, ⟨1, (some 63), none, .mov (.t 75), []⟩])))))))))) (.ops [⟨0, (some 42), none, .mov (.t 9), []⟩, ⟨1, (some 43), none, .mov (.t 1), []⟩, ⟨2, (some 44), none, .bin .add (.t 42) (.t 43), []⟩, ⟨3, (some 9), none, .mov (.t 44), []⟩])))))) (.seq (.ops [⟨0, (some 76), none, .mov (.t 8), []⟩, ⟨1, (some 6), none, .mov (.t 76), []⟩, ⟨2, (some 7), none, .mov (.c (.int .i64 0)), []⟩]) .ret))))
attribute [irreducible] c_afft_Fold
theorem run_afft_Fold {args : List Value} {w : World} {K : Value → World → Prop} (hn : args.length ≤ 77) (h : WP Try.prog c_afft_Fold (endQ [.t 6, .t 7] K) (initT args) w) : CallV Try.prog 22 args w K :=
  call_of follows Try.func22 (by kernel_rfl) (by kernel_rfl) hn h
end Go.Proofs.Ytpmfeaajpjjfiaa.Fw
namespace Go.Proofs.Ytpmfeaajpjjfiaa.Fw
open Go Go.Fw
theorem pow2_inj {a b : Nat} (h : 2 ^ a = 2 ^ b) : a = b := by
  rcases Nat.lt_trichotomy a b with h1 | h1 | h1
  · have := Nat.pow_lt_pow_right (show 1 < 2 by omega) h1; omega
  · exact h1
  · have := Nat.pow_lt_pow_right (show 1 < 2 by omega) h1; omega
theorem afft_Fold_spec (w : World) (s : Value) (l : List (El 16)) (n a : Int) (h : Sl w s l) (hb : l.length ≤ 70368744175616) :
    CallV Try.prog 22 [s, .int .i64 n, .int .i64 a] w fun v w' => RowKit.Below w.heap.size w w' ∧ ((∃ k q, k ≤ 16 ∧ n = ((2 ^ k : Nat) : Int) ∧ l.length = q * 2 ^ k ∧ q ≠ 0 ∧ isC a (2 ^ k) l.length = true ∧ ∃ sv m, v = .tuple #[sv, .int .i64 0] ∧ Ow w.heap.size w' sv m ∧ m.length = 2 ^ k ∧ ∀ i, i < 2 ^ k → (co m).c i = esum q (fun p => itI (a.toNat + p * 2 ^ k) k (fun j => (co l).c (p * 2 ^ k + j)) i)) ∨
      (isP n = false ∧ v = .tuple #[.slice none 0 0, .int .i64 130]) ∨ (isP n = true ∧ (l.length = 0 ∨ l.length % n.toNat ≠ 0) ∧ v = .tuple #[.slice none 0 0, .int .i64 6]) ∨ (isP n = true ∧ ¬ (l.length = 0 ∨ l.length % n.toNat ≠ 0) ∧ isC a n.toNat l.length = false ∧ v = .tuple #[.slice none 0 0, .int .i64 140])) := by
  refine run_afft_Fold (by simp) ?_
  simp only [c_afft_Fold, WS, List.getElem_cons_zero, List.getElem_cons_succ, Option.isNone_some, Option.isNone_none, List.getD_cons_zero, List.getD_cons_succ, I.at, atL, atO, atP, evp, evs, retV, ↓reduceIte, Nat.reduceEqDiff, reduceCtorEq]
  refine X_call0 ((afft_power_spec w n).mono ?_)
  rintro _ w' ⟨rfl, rfl⟩
  cases hp : isP n with
  | false =>
    simp (maxSteps := 1000000) (disch := omega) only [WS, List.getElem_cons_zero, List.getElem_cons_succ, Option.isNone_some, Option.isNone_none, List.getD_cons_zero, List.getD_cons_succ, I.at, atL, atO, atP, evp, evs, retV, ↓reduceIte, Nat.reduceEqDiff, reduceCtorEq, AS]
    exact ⟨RowKit.Below.refl _ _, Or.inr (Or.inl trivial)⟩
  | true =>
    obtain ⟨k, hk, rfl⟩ := (isP_iff _).1 hp
    have hp0 := Nat.two_pow_pos k
    have hp16 := pow_le16 hk
    have hnz : (((2 ^ k : Nat) : Int) ≠ 0) = True := eq_true (by omega)
    simp only [Int.toNat_natCast]
    by_cases hz : l.length = 0
    · simp (maxSteps := 1000000) (disch := omega) only [WS, List.getElem_cons_zero, List.getElem_cons_succ, Option.isNone_some, Option.isNone_none, List.getD_cons_zero, List.getD_cons_succ, I.at, atL, atO, atP, evp, evs, retV, ↓reduceIte, Nat.reduceEqDiff, reduceCtorEq, AS, h.Xlen]
      exact ⟨RowKit.Below.refl _ _, Or.inr (Or.inr (Or.inl (Or.inl hz)))⟩
    by_cases hmod : l.length % 2 ^ k = 0
    · simp (maxSteps := 1000000) (disch := omega) only [WS, List.getElem_cons_zero, List.getElem_cons_succ, Option.isNone_some, Option.isNone_none, List.getD_cons_zero, List.getD_cons_succ, I.at, atL, atO, atP, evp, evs, retV, ↓reduceIte, Nat.reduceEqDiff, reduceCtorEq, AS, h.Xlen, X_rem, hnz, tmod_nat]
      refine X_call0 ((afft_begins_spec w' a (2 ^ k) l.length (by omega)).mono ?_)
      rintro _ w ⟨rfl, rfl⟩
      cases hc : isC a (2 ^ k) l.length with
      | false =>
        simp (maxSteps := 1000000) (disch := omega) only [WS, List.getElem_cons_zero, List.getElem_cons_succ, Option.isNone_some, Option.isNone_none, List.getD_cons_zero, List.getD_cons_succ, I.at, atL, atO, atP, evp, evs, retV, ↓reduceIte, Nat.reduceEqDiff, reduceCtorEq, AS]
        exact ⟨RowKit.Below.refl _ _, Or.inr (Or.inr (Or.inr fun e => e.elim hz (fun e => e hmod)))⟩
      | true =>
        have hc2 := hc
        unfold isC at hc2
        obtain ⟨c1, c2, c3, c4⟩ := of_decide_eq_true hc2
        obtain ⟨A, rfl⟩ : ∃ A : Nat, a = (A : Int) := ⟨a.toNat, by omega⟩
        rw [Int.toNat_natCast] at c4
        rw [Int.toNat_natCast]
        obtain ⟨q, hq⟩ : ∃ q, l.length = q * 2 ^ k := ⟨l.length / 2 ^ k, by have := Nat.div_add_mod l.length (2 ^ k); rw [Nat.mul_comm]; omega⟩
        simp (maxSteps := 1000000) (disch := omega) only [WS, List.getElem_cons_zero, List.getElem_cons_succ, Option.isNone_some, Option.isNone_none, List.getD_cons_zero, List.getD_cons_succ, I.at, atL, atO, atP, evp, evs, retV, ↓reduceIte, Nat.reduceEqDiff, reduceCtorEq, AS]
        refine X_mks (x := (0 : El 16)) (by simp only [maxBytes]; omega) (by omega) fun sv w1 ov hB => ?_
        simp (maxSteps := 1000000) (disch := omega) only [WS, List.getElem_cons_zero, List.getElem_cons_succ, Option.isNone_some, Option.isNone_none, List.getD_cons_zero, List.getD_cons_succ, I.at, atL, atO, atP, evp, evs, retV, ↓reduceIte, Nat.reduceEqDiff, reduceCtorEq, AS]
        refine loop_of (fun t w' => t 0 = s ∧ t 1 = .int .i64 ((2 ^ k : Nat) : Int) ∧ t 2 = .int .i64 (A : Int) ∧ t 8 = sv ∧ RowKit.Below w.heap.size w w' ∧ ∃ (p : Nat) (m : List (El 16)), t 9 = .int .i64 ((p * 2 ^ k : Nat) : Int) ∧ p ≤ q ∧ Ow w.heap.size w' sv m ∧ m.length = 2 ^ k ∧ ∀ i, i < 2 ^ k → (co m).c i = esum p (fun p => itI (A + p * 2 ^ k) k (fun j => (co l).c (p * 2 ^ k + j)) i))
          (fun t _ => l.length - (toI (t 9)).toNat) ⟨by simp only [WS, List.getElem_cons_zero, List.getElem_cons_succ, Option.isNone_some, Option.isNone_none, List.getD_cons_zero, List.getD_cons_succ, I.at, atL, atO, atP, evp, evs, retV, ↓reduceIte, Nat.reduceEqDiff, reduceCtorEq], by simp only [WS, List.getElem_cons_zero, List.getElem_cons_succ, Option.isNone_some, Option.isNone_none, List.getD_cons_zero, List.getD_cons_succ, I.at, atL, atO, atP, evp, evs, retV, ↓reduceIte, Nat.reduceEqDiff, reduceCtorEq], by simp only [WS, List.getElem_cons_zero, List.getElem_cons_succ, Option.isNone_some, Option.isNone_none, List.getD_cons_zero, List.getD_cons_succ, I.at, atL, atO, atP, evp, evs, retV, ↓reduceIte, Nat.reduceEqDiff, reduceCtorEq], by simp only [WS, List.getElem_cons_zero, List.getElem_cons_succ, Option.isNone_some, Option.isNone_none, List.getD_cons_zero, List.getD_cons_succ, I.at, atL, atO, atP, evp, evs, retV, ↓reduceIte, Nat.reduceEqDiff, reduceCtorEq], hB, 0, _, by simp only [WS, List.getElem_cons_zero, List.getElem_cons_succ, Option.isNone_some, Option.isNone_none, List.getD_cons_zero, List.getD_cons_succ, I.at, atL, atO, atP, evp, evs, retV, ↓reduceIte, Nat.reduceEqDiff, reduceCtorEq]; simp, by omega, ov, by simp, fun i hi => by rw [co_replicate]; rfl⟩ ?_
        clear ov hB
        rintro t w2 ⟨t0, t1, t2, t8, hB, p, m, t9, hpq, om, hml, hm⟩
        have h' := h.up hB
        by_cases hlt : p < q
        · have hle : p * 2 ^ k + 2 ^ k ≤ l.length := by
            rw [hq, show p * 2 ^ k + 2 ^ k = (p + 1) * 2 ^ k by rw [Nat.add_mul, Nat.one_mul]]
            exact Nat.mul_le_mul_right _ hlt
          have hsub := h'.sub (show p * 2 ^ k ≤ p * 2 ^ k + 2 ^ k by omega) hle
          have hpl : p * 2 ^ k < l.length := by omega
          have wA : IntKind.i64.wrap ((A : Int) + ((p * 2 ^ k : Nat) : Int)) = ((A + p * 2 ^ k : Nat) : Int) := w_add _ _ (by omega)
          have wB : IntKind.i64.wrap (((p * 2 ^ k : Nat) : Int) + ((2 ^ k : Nat) : Int)) = ((p * 2 ^ k + 2 ^ k : Nat) : Int) := w_add _ _ (by omega)
          generalize hP : p * 2 ^ k = P at *
          simp (maxSteps := 1000000) (disch := omega) only [WS, List.getElem_cons_zero, List.getElem_cons_succ, Option.isNone_some, Option.isNone_none, List.getD_cons_zero, List.getD_cons_succ, I.at, atL, atO, atP, evp, evs, retV, ↓reduceIte, Nat.reduceEqDiff, reduceCtorEq, AS, t0, t1, t2, t8, t9, h'.Xlen, wA, wB, h'.Xslc (show P ≤ P + 2 ^ k by omega) hle]
          refine X_call0 ((afft_Inverse_spec w2 _ _ ((A + P : Nat) : Int) hsub (by simp only [List.length_drop, List.length_take]; omega)).mono ?_)
          have hll : ((l.take (P + 2 ^ k)).drop P).length = 2 ^ k := by simp only [List.length_drop, List.length_take]; omega
          have hisC : isC ((A + P : Nat) : Int) (2 ^ k) (2 ^ k) = true := by
            unfold isC
            refine decide_eq_true ⟨by omega, by omega, by omega, ?_⟩
            rw [Int.toNat_natCast, Nat.add_mod, c4, ← hP, Nat.mul_mod_left, Nat.zero_add, Nat.zero_mod]
          rw [hll]
          rintro _ w3 ⟨hB3, ⟨k', hk', hlk', -, sd, d, rfl, od, hdl, hd⟩ | ⟨hbad, -⟩ | ⟨-, hbad, -⟩⟩
          rotate_left
          · rw [hp] at hbad; cases hbad
          · rw [hisC] at hbad; cases hbad
          obtain rfl : k' = k := pow2_inj (show 2 ^ k' = 2 ^ k by omega)
          rw [Int.toNat_natCast] at hd
          have hbl : ∀ b, Fw.blk sd = some b → w2.heap.size ≤ b := fun b hb => (od.blk b hb).1
          have hsl : ∀ b, Fw.blk sv = some b → b < w2.heap.size := fun b hb => (om.blk b hb).2
          have hne : Fw.blk sd ≠ Fw.blk sv := by
            intro e
            obtain ⟨b, hb, -⟩ := od.sl.blk_lt (by intro e; rw [e] at hdl; simp at hdl; omega)
            have h1 := hbl b hb
            have h2 := hsl b (e ▸ hb)
            omega
          have od := od.sl
          have om := om.up hB3
          have hB := hB.trans (hB3.mono hB.size)
          have svb : ∀ b, Fw.blk sv = some b → w.heap.size ≤ b := fun b hb => (om.blk b hb).1
          simp (maxSteps := 1000000) (disch := omega) only [WS, List.getElem_cons_zero, List.getElem_cons_succ, Option.isNone_some, Option.isNone_none, List.getD_cons_zero, List.getD_cons_succ, I.at, atL, atO, atP, evp, evs, retV, ↓reduceIte, Nat.reduceEqDiff, reduceCtorEq, AS, t0, t1, t2, t8, t9, od.Xlen]
          refine loop_of (fun t w' => t 0 = s ∧ t 1 = .int .i64 ((2 ^ k' : Nat) : Int) ∧ t 2 = .int .i64 (A : Int) ∧ t 8 = sv ∧ t 9 = .int .i64 (P : Int) ∧ t 61 = sd ∧ t 62 = .int .i64 (d.length : Int) ∧ RowKit.Below w.heap.size w w' ∧ Sl w' sd d ∧ ∃ (i : Nat) (m' : List (El 16)), t 63 = .int .i64 (i : Int) ∧ i ≤ 2 ^ k' ∧ Ow w.heap.size w' sv m' ∧ m'.length = 2 ^ k' ∧ ∀ x, (co m').c x = if x < i then (co m).c x + (co d).c x else (co m).c x)
            (fun t _ => 2 ^ k' - (toI (t 63)).toNat) ⟨by simp only [WS, List.getElem_cons_zero, List.getElem_cons_succ, Option.isNone_some, Option.isNone_none, List.getD_cons_zero, List.getD_cons_succ, I.at, atL, atO, atP, evp, evs, retV, ↓reduceIte, Nat.reduceEqDiff, reduceCtorEq]; exact t0, by simp only [WS, List.getElem_cons_zero, List.getElem_cons_succ, Option.isNone_some, Option.isNone_none, List.getD_cons_zero, List.getD_cons_succ, I.at, atL, atO, atP, evp, evs, retV, ↓reduceIte, Nat.reduceEqDiff, reduceCtorEq]; exact t1, by simp only [WS, List.getElem_cons_zero, List.getElem_cons_succ, Option.isNone_some, Option.isNone_none, List.getD_cons_zero, List.getD_cons_succ, I.at, atL, atO, atP, evp, evs, retV, ↓reduceIte, Nat.reduceEqDiff, reduceCtorEq]; exact t2, by simp only [WS, List.getElem_cons_zero, List.getElem_cons_succ, Option.isNone_some, Option.isNone_none, List.getD_cons_zero, List.getD_cons_succ, I.at, atL, atO, atP, evp, evs, retV, ↓reduceIte, Nat.reduceEqDiff, reduceCtorEq]; exact t8, by simp only [WS, List.getElem_cons_zero, List.getElem_cons_succ, Option.isNone_some, Option.isNone_none, List.getD_cons_zero, List.getD_cons_succ, I.at, atL, atO, atP, evp, evs, retV, ↓reduceIte, Nat.reduceEqDiff, reduceCtorEq]; exact t9, by simp only [WS, List.getElem_cons_zero, List.getElem_cons_succ, Option.isNone_some, Option.isNone_none, List.getD_cons_zero, List.getD_cons_succ, I.at, atL, atO, atP, evp, evs, retV, ↓reduceIte, Nat.reduceEqDiff, reduceCtorEq], by simp only [WS, List.getElem_cons_zero, List.getElem_cons_succ, Option.isNone_some, Option.isNone_none, List.getD_cons_zero, List.getD_cons_succ, I.at, atL, atO, atP, evp, evs, retV, ↓reduceIte, Nat.reduceEqDiff, reduceCtorEq], hB, od, 0, m, rfl, by omega, om, hml, fun x => by rw [if_neg (by omega)]⟩ ?_
          clear t0 t1 t2 t8 t9 hB od om
          rintro t w4 ⟨t0, t1, t2, t8, t9, t61, t62, hB, od, i, m', t63, hi, om, hml', hco⟩
          by_cases hil : i < 2 ^ k'
          · have him : i < m'.length := by omega
            have hid : i < d.length := by omega
            simp (maxSteps := 1000000) (disch := omega) only [WS, List.getElem_cons_zero, List.getElem_cons_succ, Option.isNone_some, Option.isNone_none, List.getD_cons_zero, List.getD_cons_succ, I.at, atL, atO, atP, evp, evs, retV, ↓reduceIte, Nat.reduceEqDiff, reduceCtorEq, AS, t0, t1, t2, t8, t9, t61, t62, t63, od.Xix hid, od.Xld hid, om.sl.Xix him, om.sl.Xld him, cell_e16, xor16]
            refine Ow.Xst om him (m'[i] + d[i]) fun w5 om5 hg5 => ?_
            simp (maxSteps := 1000000) (disch := omega) only [WS, List.getElem_cons_zero, List.getElem_cons_succ, Option.isNone_some, Option.isNone_none, List.getD_cons_zero, List.getD_cons_succ, I.at, atL, atO, atP, evp, evs, retV, ↓reduceIte, Nat.reduceEqDiff, reduceCtorEq, AS, t0, t1, t2, t8, t9, t61, t62, t63]
            refine ⟨⟨hB.grown hg5 hB.size svb, od.grown hg5 (Or.inl hne), i + 1, _, rfl, by omega, om5, by simp [hml'], fun x => ?_⟩, by omega⟩
            rw [co_set _ him, hco x]
            by_cases hx : x = i
            · subst hx
              have := hco x
              rw [if_neg (by omega), co_get m' him] at this
              rw [if_pos rfl, if_pos (by omega), this, co_get d hid]
            · rw [if_neg hx]
              by_cases hxi : x < i
              · rw [if_pos hxi, if_pos (by omega)]
              · rw [if_neg hxi, if_neg (by omega)]
          · simp (maxSteps := 1000000) (disch := omega) only [WS, List.getElem_cons_zero, List.getElem_cons_succ, Option.isNone_some, Option.isNone_none, List.getD_cons_zero, List.getD_cons_succ, I.at, atL, atO, atP, evp, evs, retV, ↓reduceIte, Nat.reduceEqDiff, reduceCtorEq, AS, t0, t1, t2, t8, t9, t61, t62, t63, wB]
            refine ⟨⟨hB, p + 1, m', by rw [← hP, Nat.add_mul, Nat.one_mul], by omega, om, hml', fun x hx => ?_⟩, by omega⟩
            rw [hco x, if_pos (by omega), hm x hx, hd x hx]
            show _ = esum p _ + itI (A + p * 2 ^ k') k' (fun j => (co l).c (p * 2 ^ k' + j)) x
            rw [hP]
            congr 1
            refine itI_loc (n := 2 ^ k') (Nat.mod_self _) (fun j hj => ?_) x hx
            rw [co_drop, co_takeL, if_pos (by omega)]
        · obtain rfl : p = q := by omega
          simp (maxSteps := 1000000) (disch := omega) only [WS, List.getElem_cons_zero, List.getElem_cons_succ, Option.isNone_some, Option.isNone_none, List.getD_cons_zero, List.getD_cons_succ, I.at, atL, atO, atP, evp, evs, retV, ↓reduceIte, Nat.reduceEqDiff, reduceCtorEq, AS, t0, t1, t2, t8, t9, h'.Xlen, hq]
          exact ⟨hB, Or.inl ⟨k, p, hk, rfl, rfl, by rintro rfl; rw [Nat.zero_mul] at hq; omega, hq ▸ hc, sv, m, rfl, om, hml, hm⟩⟩
    · simp (maxSteps := 1000000) (disch := omega) only [WS, List.getElem_cons_zero, List.getElem_cons_succ, Option.isNone_some, Option.isNone_none, List.getD_cons_zero, List.getD_cons_succ, I.at, atL, atO, atP, evp, evs, retV, ↓reduceIte, Nat.reduceEqDiff, reduceCtorEq, AS, h.Xlen, X_rem, hnz, tmod_nat]
      exact ⟨RowKit.Below.refl _ _, Or.inr (Or.inr (Or.inl (Or.inr hmod)))⟩
end Go.Proofs.Ytpmfeaajpjjfiaa.Fw
