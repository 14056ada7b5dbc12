import Derived.Test.YtbaljbadlfopgaaProg
import Derived.Test.YtbaljbadlfopgaaFwTL
import Derived.Test.YtbaljbadlfopgaaSMz1L
import Derived.Test.YtbaljbadlfopgaaFwSgL
import Derived.Test.YtbaljbadlfopgaaFwXL
import Derived.Test.YtbaljbadlfopgaaFwZL
import Derived.Test.YtbaljbadlfopgaaSMrL
import Derived.Test.YtbaljbadlfopgaaSMyL
import Derived.Test.YtbaljbadlfopgaaGfML
set_option linter.all false
set_option linter.unusedVariables false
set_option linter.unusedSimpArgs false
set_option maxRecDepth 100000
set_option maxHeartbeats 1000000
namespace Go.Proofs.Ytbaljbadlfopgaa.Fw
open Go Go.Fw Go.Proofs
attribute [local irreducible] stepI
def c_walsh_logs : C := .seq (.ops [⟨0, (some 4), none, .mov (.c (.slice none 0 0)), []⟩]) (.seq (.ops [⟨0, (some 14), none, .mov (.t 1), []⟩, ⟨1, (some 15), none, .bin .shl (.c (.int .i64 1)) (.t 14), []⟩, ⟨2, (some 16), none, .mks 73 2 [.int .u16 0] (.t 15) (.t 15), []⟩, ⟨3, (some 5), none, .mov (.t 16), []⟩]) (.seq (.ops [⟨0, (some 17), none, .mov (.t 1), []⟩, ⟨1, (some 18), none, .bin .shl (.c (.int .i64 1)) (.t 17), []⟩, ⟨2, (some 19), none, .mks 73 2 [.int .u16 0] (.c (.int .i64 1)) (.t 18), []⟩, ⟨3, (some 6), none, .mov (.t 19), []⟩]) (.seq (.ops [⟨0, (some 20), none, .call (.c (.func (.func 142) #[] #[])) [], []⟩, ⟨1, (some 7), none, .mov (.t 20), []⟩]) (.seq (.seq (.ops [⟨0, (some 21), none, .mov (.t 1), []⟩, ⟨1, (some 22), none, .mov (.c (.int .i64 0)), []⟩]) (.block 0 (.loop (.seq (.ops [⟨0, (some 23), none, .bin .lss (.t 22) (.t 21), []⟩]) (.seq (.ite (.t 23) .skip (.exit 0)) (.seq (.block 1 (.seq (.ops [⟨0, (some 24), none, .mov (.t 22), []⟩, ⟨1, (some 8), none, .mov (.t 24), []⟩]) (.seq (.ops [⟨0, (some 25), none, .mov (.t 6), []⟩, ⟨1, (some 26), none, .mov (.t 8), []⟩, ⟨2, (some 27), none, .bin .shl (.c (.int .i64 1)) (.t 26), []⟩, ⟨3, (some 28), none, .slc 1 (.t 25) none (some (.t 27)) none, []⟩, ⟨4, (some 29), none, .len (.t 28), []⟩, ⟨5, (some 30), none, .mov (.c (.int .i64 0)), []⟩]) (.block 2 (.loop (.seq (.ops [⟨0, (some 31), none, .bin .lss (.t 30) (.t 29), []⟩]) (.seq (.ite (.t 31) .skip (.exit 2)) (.seq (.block 3 (.seq (.ops [⟨0, (some 32), none, .ixs 1 (.t 28) (.t 30), []⟩, ⟨1, (some 33), none, .ld (.t 32), []⟩, ⟨2, (some 10), none, .mov (.t 33), []⟩]) (.ops [⟨0, (some 34), none, .mov (.t 6), []⟩, ⟨1, (some 35), none, .mov (.t 10), []⟩, ⟨2, (some 36), none, .mov (.t 7), []⟩, ⟨3, (some 37), none, .mov (.t 8), []⟩, ⟨4, (some 38), none, .ixs 1 (.t 36) (.t 37), []⟩, ⟨5, (some 39), none, .ld (.t 38), []⟩, ⟨6, (some 40), none, .bin .xor (.t 35) (.t 39), []⟩, ⟨7, (some 41), none, .bsl 73 1 [.int .u16 0] [(0, (1, .t 40))], []⟩, ⟨8, (some 42), none, .app 73 2 [.int .u16 0] (.t 34) (.t 41), []⟩, ⟨9, (some 6), none, .mov (.t 42), []⟩]))) (.ops [⟨0, (some 43), none, .bin .add (.t 30) (.c (.int .i64 1)), []⟩, ⟨1, (some 30), none, .mov (.t 43), []⟩]))))))))) (.ops [⟨0, (some 44), none, .bin .add (.t 22) (.c (.int .i64 1)), []⟩, ⟨1, (some 22), none, .mov (.t 44), []⟩]))))))) (.seq (.seq (.ops [⟨0, (some 11), none, .mov (.c (.int .i64 1)), []⟩]) (.block 4 (.loop (.seq (.seq (.ops [⟨0, (some 45), none, .mov (.t 11), []⟩, ⟨1, (some 46), none, .mov (.t 5), []⟩, ⟨2, (some 47), none, .len (.t 46), []⟩, ⟨3, (some 48), none, .bin .lss (.t 45) (.t 47), []⟩]) (.ite (.t 48) .skip (.exit 4))) (.seq (.block 5 (.seq (.ops [⟨0, (some 52), none, .mov (.t 0), []⟩, ⟨1, (some 53), none, .mov (.t 6), []⟩, ⟨2, (some 54), none, .mov (.t 11), []⟩, ⟨3, (some 55), none, .ixs 1 (.t 53) (.t 54), []⟩, ⟨4, (some 56), none, .ld (.t 55), []⟩, ⟨5, (some 57), none, .call (.c (.func (.func 143) #[] #[])) [.t 52, .t 56], []⟩, ⟨6, (some 51), none, .mov (.t 57), []⟩, ⟨7, (some 58), none, .ext (.t 51) 0, []⟩, ⟨8, (some 59), none, .ext (.t 51) 1, []⟩, ⟨9, (some 12), none, .mov (.t 58), []⟩, ⟨10, (some 13), none, .mov (.t 59), []⟩]) (.ops [⟨0, (some 60), none, .mov (.t 5), []⟩, ⟨1, (some 61), none, .mov (.t 11), []⟩, ⟨2, (some 62), none, .mov (.t 12), []⟩, ⟨3, (some 63), none, .cnv .u16 (.t 62), []⟩, ⟨4, (some 64), none, .ixs 1 (.t 60) (.t 61), []⟩, ⟨5, none, none, .st (.t 64) (.t 63), []⟩]))) (.ops [⟨0, (some 49), none, .mov (.t 11), []⟩, ⟨1, (some 50), none, .bin .add (.t 49) (.c (.int .i64 1)), []⟩, ⟨2, (some 11), none, .mov (.t 50), []⟩])))))) (.seq (.ops [⟨0, (some 65), none, .mov (.t 5), []⟩, ⟨1, (some 4), none, .mov (.t 65), []⟩]) .ret))))))
attribute [irreducible] c_walsh_logs
theorem run_walsh_logs {args : List Value} {w : World} {K : Value → World → Prop} (hn : args.length ≤ 66) (h : WP Try.prog c_walsh_logs (endQ [.t 4] K) (initT args) w) : CallV Try.prog 112 args w K :=
  call_of follows Try.func112 (by kernel_rfl) (by kernel_rfl) hn h
end Go.Proofs.Ytbaljbadlfopgaa.Fw
namespace Go.Proofs.Ytbaljbadlfopgaa.Fw
open Go Go.Fw
/-- A window at the beginning of a list that grows. -/
theorem view_keep {α : Type} [Cell α] {B : Nat} {w w' : World} {sv s s' : Value} {p e m : List α} (hv : Sl w sv p) (h0 : ∃ b c, sv = .slice (some ⟨b, 0, none⟩) p.length c) (hne : p ≠ []) (ho' : Ow B w' s' (p ++ e ++ m)) (hg : Grew w w' s s') : Sl w' sv p := by
  rcases hg with ⟨e1, hg⟩ | ⟨-, hB⟩
  · by_cases hb : Fw.blk sv = Fw.blk s'
    · rw [List.append_assoc] at ho'
      exact ho'.pre hv hb h0 hne
    · exact hv.grown hg (Or.inl (by rw [← e1]; exact hb))
  · exact hv.up hB
theorem other_keep {α : Type} [Cell α] {w w' : World} {x s s' : Value} {p : List α} (hv : Sl w x p) (hne : Fw.blk x ≠ Fw.blk s) (hg : Grew w w' s s') : Sl w' x p := by
  rcases hg with ⟨-, hg⟩ | ⟨-, hB⟩
  · exact hv.grown hg (Or.inl hne)
  · exact hv.up hB
theorem grew_ne {w w' : World} {s s' : Value} {b : Nat} (hg : Grew w w' s s') (hb : b < w.heap.size) (hne : some b ≠ Fw.blk s) : some b ≠ Fw.blk s' := by
  rcases hg with ⟨e, -⟩ | ⟨h, -⟩
  · rw [e]; exact hne
  · intro e
    have := h b e.symm
    omega
theorem walsh_logs_spec (w : World) (p : Value) (hT : Tab16 w p) (r : Nat) (hr : r ≤ 16) :
    CallV Try.prog 112 [p, .int .i64 (r : Int)] w fun v w' => ∃ L : List (El 16), Ow w.heap.size w' v L ∧ L.length = 2 ^ r ∧ (∀ i (hi : i < L.length), 0 < i → gq L[i].v.toNat = (wel i).v ∧ L[i].v.toNat < 65535) ∧ (∀ h : 0 < L.length, L[0].v.toNat = 0) ∧ RowKit.Below w.heap.size w w' := by
  refine run_walsh_logs (by simp) ?_
  have hr16 := pow_le16' hr
  have h0 := Nat.two_pow_pos r
  have hsh : ∀ i : Nat, i ≤ 16 → shlV .i64 1 (i : Int) = ((2 ^ i : Nat) : Int) := fun i hi => by
    have h1 := pow_le16' hi
    have := shl_nat fits_i64 1 i (by show i ≤ 64; omega) (by rw [Nat.one_mul]; exact Nat.pow_lt_pow_right (by omega) (by omega))
    rw [Nat.one_shiftLeft] at this
    exact this
  simp only [c_walsh_logs, WS, List.getElem_cons_zero, List.getElem_cons_succ, Option.isNone_some, Option.isNone_none, List.getD_cons_zero, List.getD_cons_succ, I.at, atL, atO, atP, evp, evs, retV, ↓reduceIte, Nat.reduceEqDiff, reduceCtorEq]
  simp (maxSteps := 1000000) (disch := omega) only [WS, List.getElem_cons_zero, List.getElem_cons_succ, Option.isNone_some, Option.isNone_none, List.getD_cons_zero, List.getD_cons_succ, I.at, atL, atO, atP, evp, evs, retV, ↓reduceIte, Nat.reduceEqDiff, reduceCtorEq, AS, X_shl, Int.natCast_nonneg, hsh r hr]
  obtain ⟨N, hN⟩ : ∃ N, N = 2 ^ r := ⟨_, rfl⟩
  rw [← hN] at hr16 h0 ⊢
  refine X_mks (x := (0 : El 16)) (n := N) (by simp only [maxBytes]; omega) (by omega) fun s5 w1 o5 hB => ?_
  have B := hB
  clear hB
  simp (maxSteps := 1000000) (disch := omega) only [WS, List.getElem_cons_zero, List.getElem_cons_succ, Option.isNone_some, Option.isNone_none, List.getD_cons_zero, List.getD_cons_succ, I.at, atL, atO, atP, evp, evs, retV, ↓reduceIte, Nat.reduceEqDiff, reduceCtorEq, AS, X_shl, Int.natCast_nonneg, hsh r hr]
  rw [← hN]
  refine X_mksC (x := (0 : El 16)) (n := 1) (c := N) (by omega) (by simp only [maxBytes]; omega) (by omega) fun s6 w2 o6 hB => ?_
  have C := hB
  clear hB
  simp (maxSteps := 1000000) (disch := omega) only [WS, List.getElem_cons_zero, List.getElem_cons_succ, Option.isNone_some, Option.isNone_none, List.getD_cons_zero, List.getD_cons_succ, I.at, atL, atO, atP, evp, evs, retV, ↓reduceIte, Nat.reduceEqDiff, reduceCtorEq, AS]
  refine X_call0 ((gf16_Basis_spec w2).mono ?_)
  rintro s7 w3 ⟨o7, hB⟩
  have bl : basE.length = 16 := rfl
  have h7 := basE_get
  have hb6 : ∀ b, Fw.blk s6 = some b → b < w2.heap.size := fun b hb => (o6.blk b hb).2
  obtain ⟨b7, hb7, hb71, hb72⟩ : ∃ b7, Fw.blk s7 = some b7 ∧ w2.heap.size ≤ b7 ∧ b7 < w3.heap.size := by
    rcases o7 with ⟨-, h⟩ | ⟨b, cap, rest, rfl, h1, -, h2⟩
    · rw [h] at bl; cases bl
    · exact ⟨b, rfl, h1, row_lt h2⟩
  have hne : some b7 ≠ Fw.blk s6 := fun e => by have := hb6 b7 e.symm; omega
  have o7 := o7.sl
  have o6 := o6.up hB
  have C := C.trans (hB.mono C.size)
  clear hB
  generalize basE = be at *
  have e6 : List.replicate 1 (0 : El 16) = (List.range (2 ^ 0)).map wel := by
    show [(0 : El 16)] = [wel 0]
    rw [wel_zero]
  rw [e6] at o6
  have hb7c : b7 < w3.heap.size := hb72
  clear hb6 hb71 e6
  simp (maxSteps := 1000000) (disch := omega) only [WS, List.getElem_cons_zero, List.getElem_cons_succ, Option.isNone_some, Option.isNone_none, List.getD_cons_zero, List.getD_cons_succ, I.at, atL, atO, atP, evp, evs, retV, ↓reduceIte, Nat.reduceEqDiff, reduceCtorEq, AS]
  refine loop_of (fun t w' => t 0 = p ∧ t 5 = s5 ∧ t 7 = s7 ∧ t 21 = .int .i64 (r : Int) ∧ RowKit.Below w1.heap.size w1 w' ∧ Sl w' s7 be ∧ w3.heap.size ≤ w'.heap.size ∧ ∃ (i : Nat) (s6 : Value), t 22 = .int .i64 (i : Int) ∧ i ≤ r ∧ t 6 = s6 ∧ Ow w1.heap.size w' s6 ((List.range (2 ^ i)).map wel) ∧ some b7 ≠ Fw.blk s6) (fun t _ => r - (toI (t 22)).toNat)
    ⟨by simp only [WS, List.getElem_cons_zero, List.getElem_cons_succ, Option.isNone_some, Option.isNone_none, List.getD_cons_zero, List.getD_cons_succ, I.at, atL, atO, atP, evp, evs, retV, ↓reduceIte, Nat.reduceEqDiff, reduceCtorEq], by simp only [WS, List.getElem_cons_zero, List.getElem_cons_succ, Option.isNone_some, Option.isNone_none, List.getD_cons_zero, List.getD_cons_succ, I.at, atL, atO, atP, evp, evs, retV, ↓reduceIte, Nat.reduceEqDiff, reduceCtorEq], by simp only [WS, List.getElem_cons_zero, List.getElem_cons_succ, Option.isNone_some, Option.isNone_none, List.getD_cons_zero, List.getD_cons_succ, I.at, atL, atO, atP, evp, evs, retV, ↓reduceIte, Nat.reduceEqDiff, reduceCtorEq], by simp only [WS, List.getElem_cons_zero, List.getElem_cons_succ, Option.isNone_some, Option.isNone_none, List.getD_cons_zero, List.getD_cons_succ, I.at, atL, atO, atP, evp, evs, retV, ↓reduceIte, Nat.reduceEqDiff, reduceCtorEq], C, o7, Nat.le_refl _, 0, s6, by simp only [WS, List.getElem_cons_zero, List.getElem_cons_succ, Option.isNone_some, Option.isNone_none, List.getD_cons_zero, List.getD_cons_succ, I.at, atL, atO, atP, evp, evs, retV, ↓reduceIte, Nat.reduceEqDiff, reduceCtorEq]; rfl, by omega, by simp only [WS, List.getElem_cons_zero, List.getElem_cons_succ, Option.isNone_some, Option.isNone_none, List.getD_cons_zero, List.getD_cons_succ, I.at, atL, atO, atP, evp, evs, retV, ↓reduceIte, Nat.reduceEqDiff, reduceCtorEq], o6, hne⟩ ?_
  clear C o6 hne o7
  rintro t w4 ⟨t0, t5, t7, t21, C, o7, hsz, i, s6', t22, hi, t6, o6, hne⟩
  have hl6 : ((List.range (2 ^ i)).map wel).length = 2 ^ i := by rw [List.length_map, List.length_range]
  by_cases hlt : i < r
  · have hi16 := pow_le16' (show i ≤ 16 by omega)
    have hp0 := Nat.two_pow_pos i
    simp (maxSteps := 1000000) (disch := omega) only [WS, List.getElem_cons_zero, List.getElem_cons_succ, Option.isNone_some, Option.isNone_none, List.getD_cons_zero, List.getD_cons_succ, I.at, atL, atO, atP, evp, evs, retV, ↓reduceIte, Nat.reduceEqDiff, reduceCtorEq, AS, t0, t5, t7, t21, t22, t6, X_shl, Int.natCast_nonneg, hsh i (by omega)]
    rw [o6.sl.XslcHi (hi := 2 ^ i) (by rw [hl6]; exact Nat.le_refl _)]
    have ov := o6.sub0 (k := 2 ^ i) (by rw [hl6]; exact Nat.le_refl _)
    have htk : ((List.range (2 ^ i)).map wel).take (2 ^ i) = (List.range (2 ^ i)).map wel := List.take_of_length_le (by rw [hl6]; exact Nat.le_refl _)
    rw [htk] at ov
    have hsv : ∃ b c, Fw.sub s6' 0 (2 ^ i) = .slice (some ⟨b, 0, none⟩) ((List.range (2 ^ i)).map wel).length c := by
      rcases ov with ⟨-, h⟩ | ⟨b, cap, rest, h, -, -, -⟩
      · rw [h] at hl6; simp at hl6; omega
      · exact ⟨b, cap, h⟩
    have ov := ov.sl
    generalize Fw.sub s6' 0 (2 ^ i) = sv at *
    have hpn : (List.range (2 ^ i)).map wel ≠ [] := fun e => by rw [e] at hl6; simp at hl6; omega
    simp (maxSteps := 1000000) (disch := omega) only [WS, List.getElem_cons_zero, List.getElem_cons_succ, Option.isNone_some, Option.isNone_none, List.getD_cons_zero, List.getD_cons_succ, I.at, atL, atO, atP, evp, evs, retV, ↓reduceIte, Nat.reduceEqDiff, reduceCtorEq, AS, t0, t5, t7, t21, t22, ov.Xlen, hl6]
    refine loop_of (fun t w' => t 0 = p ∧ t 5 = s5 ∧ t 7 = s7 ∧ t 21 = .int .i64 (r : Int) ∧ t 22 = .int .i64 (i : Int) ∧ t 8 = .int .i64 (i : Int) ∧ t 28 = sv ∧ t 29 = .int .i64 ((2 ^ i : Nat) : Int) ∧ RowKit.Below w1.heap.size w1 w' ∧ Sl w' s7 be ∧ Sl w' sv ((List.range (2 ^ i)).map wel) ∧ w3.heap.size ≤ w'.heap.size ∧ ∃ (j : Nat) (s6 : Value), t 30 = .int .i64 (j : Int) ∧ j ≤ 2 ^ i ∧ t 6 = s6 ∧ Ow w1.heap.size w' s6 ((List.range (2 ^ i + j)).map wel) ∧ some b7 ≠ Fw.blk s6) (fun t _ => 2 ^ i - (toI (t 30)).toNat)
      ⟨by simp only [WS, List.getElem_cons_zero, List.getElem_cons_succ, Option.isNone_some, Option.isNone_none, List.getD_cons_zero, List.getD_cons_succ, I.at, atL, atO, atP, evp, evs, retV, ↓reduceIte, Nat.reduceEqDiff, reduceCtorEq]; exact t0, by simp only [WS, List.getElem_cons_zero, List.getElem_cons_succ, Option.isNone_some, Option.isNone_none, List.getD_cons_zero, List.getD_cons_succ, I.at, atL, atO, atP, evp, evs, retV, ↓reduceIte, Nat.reduceEqDiff, reduceCtorEq]; exact t5, by simp only [WS, List.getElem_cons_zero, List.getElem_cons_succ, Option.isNone_some, Option.isNone_none, List.getD_cons_zero, List.getD_cons_succ, I.at, atL, atO, atP, evp, evs, retV, ↓reduceIte, Nat.reduceEqDiff, reduceCtorEq]; exact t7, by simp only [WS, List.getElem_cons_zero, List.getElem_cons_succ, Option.isNone_some, Option.isNone_none, List.getD_cons_zero, List.getD_cons_succ, I.at, atL, atO, atP, evp, evs, retV, ↓reduceIte, Nat.reduceEqDiff, reduceCtorEq]; exact t21, by simp only [WS, List.getElem_cons_zero, List.getElem_cons_succ, Option.isNone_some, Option.isNone_none, List.getD_cons_zero, List.getD_cons_succ, I.at, atL, atO, atP, evp, evs, retV, ↓reduceIte, Nat.reduceEqDiff, reduceCtorEq]; exact t22, by simp only [WS, List.getElem_cons_zero, List.getElem_cons_succ, Option.isNone_some, Option.isNone_none, List.getD_cons_zero, List.getD_cons_succ, I.at, atL, atO, atP, evp, evs, retV, ↓reduceIte, Nat.reduceEqDiff, reduceCtorEq], by simp only [WS, List.getElem_cons_zero, List.getElem_cons_succ, Option.isNone_some, Option.isNone_none, List.getD_cons_zero, List.getD_cons_succ, I.at, atL, atO, atP, evp, evs, retV, ↓reduceIte, Nat.reduceEqDiff, reduceCtorEq], by simp only [WS, List.getElem_cons_zero, List.getElem_cons_succ, Option.isNone_some, Option.isNone_none, List.getD_cons_zero, List.getD_cons_succ, I.at, atL, atO, atP, evp, evs, retV, ↓reduceIte, Nat.reduceEqDiff, reduceCtorEq], C, o7, ov, hsz, 0, s6', by simp only [WS, List.getElem_cons_zero, List.getElem_cons_succ, Option.isNone_some, Option.isNone_none, List.getD_cons_zero, List.getD_cons_succ, I.at, atL, atO, atP, evp, evs, retV, ↓reduceIte, Nat.reduceEqDiff, reduceCtorEq]; rfl, by omega, by simp only [WS, List.getElem_cons_zero, List.getElem_cons_succ, Option.isNone_some, Option.isNone_none, List.getD_cons_zero, List.getD_cons_succ, I.at, atL, atO, atP, evp, evs, retV, ↓reduceIte, Nat.reduceEqDiff, reduceCtorEq]; exact t6, o6, hne⟩ ?_
    clear t0 t5 t7 t21 t22 t6 C o7 ov hsz o6 hne s6'
    rintro t w5 ⟨t0, t5, t7, t21, t22, t8, t28, t29, C, o7, ov, hsz, j, s6', t30, hj, t6, o6, hne⟩
    have hl7 : ((List.range (2 ^ i + j)).map wel).length = 2 ^ i + j := by rw [List.length_map, List.length_range]
    by_cases hjl : j < 2 ^ i
    · have jv : j < ((List.range (2 ^ i)).map wel).length := by rw [hl6]; exact hjl
      have ev : ((List.range (2 ^ i)).map wel)[j] = wel j := by rw [List.getElem_map, List.getElem_range]
      have iv : i < be.length := by omega
      simp (maxSteps := 1000000) (disch := omega) only [WS, List.getElem_cons_zero, List.getElem_cons_succ, Option.isNone_some, Option.isNone_none, List.getD_cons_zero, List.getD_cons_succ, I.at, atL, atO, atP, evp, evs, retV, ↓reduceIte, Nat.reduceEqDiff, reduceCtorEq, AS, t0, t5, t7, t21, t22, t8, t28, t29, t30, t6, ov.Xix jv, ov.Xld jv, o7.Xix iv, o7.Xld iv, ev, h7 i iv, cell_e16, xor16]
      refine X_bsl (zs := [wel j + wel (2 ^ i)]) (by rfl) (by rfl) fun e0 w6 oe hB => ?_
      have oe := oe.sl
      have hsz := Nat.le_trans hsz hB.size
      have o7 := o7.up hB
      have ov := ov.up hB
      have o6 := o6.up hB
      have C := C.trans (hB.mono C.size)
      clear hB
      simp (maxSteps := 1000000) (disch := omega) only [WS, List.getElem_cons_zero, List.getElem_cons_succ, Option.isNone_some, Option.isNone_none, List.getD_cons_zero, List.getD_cons_succ, I.at, atL, atO, atP, evp, evs, retV, ↓reduceIte, Nat.reduceEqDiff, reduceCtorEq, AS, t0, t5, t7, t21, t22, t8, t28, t29, t30, t6]
      refine Ow.Xapp2 o6 oe C.size (by rw [hl7]; simp only [List.length_singleton, maxBytes]; omega) (by rw [hl7]; simp only [List.length_singleton]; omega) fun e1 w9 ox2 hg => ?_
      have he : ((List.range (2 ^ i + j)).map wel) ++ [wel j + wel (2 ^ i)] = (List.range (2 ^ i + (j + 1))).map wel := by
        rw [← Nat.add_assoc, List.range_succ, List.map_append, List.map_singleton, wel_pow_add hjl, El.add_comm]
      have o7 := other_keep o7 (by rw [hb7]; exact hne) hg
      have hsplit : ((List.range (2 ^ i + j)).map wel) = (List.range (2 ^ i)).map wel ++ (List.range j).map (fun x => wel (2 ^ i + x)) := by
        rw [List.range_add, List.map_append, List.map_map]; rfl
      have ov := view_keep (m := [wel j + wel (2 ^ i)]) ov hsv hpn (by rw [← hsplit]; exact ox2) hg
      have hne := grew_ne hg (by omega) hne
      have C := hg.below C C.size fun b hb => (o6.blk b hb).1
      have hsz := Nat.le_trans hsz hg.size
      rw [he] at ox2
      simp (maxSteps := 1000000) (disch := omega) only [WS, List.getElem_cons_zero, List.getElem_cons_succ, Option.isNone_some, Option.isNone_none, List.getD_cons_zero, List.getD_cons_succ, I.at, atL, atO, atP, evp, evs, retV, ↓reduceIte, Nat.reduceEqDiff, reduceCtorEq, AS, t0, t5, t7, t21, t22, t8, t28, t29, t30]
      exact ⟨⟨C, o7, ov, hsz, j + 1, e1, rfl, by omega, rfl, ox2, hne⟩, by omega⟩
    · have hje : 2 ^ i + j = 2 ^ (i + 1) := by rw [Nat.pow_succ]; omega
      rw [hje] at o6
      simp (maxSteps := 1000000) (disch := omega) only [WS, List.getElem_cons_zero, List.getElem_cons_succ, Option.isNone_some, Option.isNone_none, List.getD_cons_zero, List.getD_cons_succ, I.at, atL, atO, atP, evp, evs, retV, ↓reduceIte, Nat.reduceEqDiff, reduceCtorEq, AS, t0, t5, t7, t21, t22, t8, t28, t29, t30]
      exact ⟨⟨C, o7, hsz, i + 1, s6', rfl, by omega, t6, o6, hne⟩, by omega⟩
  have hie : i = r := by omega
  rw [hie, ← hN] at o6 hl6
  have v5 := o5.up C
  have v6 := o6.sl
  have B := B.trans (C.mono B.size)
  have hne2 : Fw.blk s6' ≠ Fw.blk s5 := fun e => by
    have o6' := o6
    rcases o6' with ⟨-, h⟩ | ⟨b, cap, rest, rfl, h1, -, h2⟩
    · rw [h] at hl6; simp at hl6; omega
    · have := (o5.blk b e.symm).2
      omega
  have hlr : (List.replicate N (0 : El 16)).length = N := List.length_replicate ..
  have hz0 : (0 : El 16).v.toNat = 0 := rfl
  simp (maxSteps := 1000000) (disch := omega) only [WS, List.getElem_cons_zero, List.getElem_cons_succ, Option.isNone_some, Option.isNone_none, List.getD_cons_zero, List.getD_cons_succ, I.at, atL, atO, atP, evp, evs, retV, ↓reduceIte, Nat.reduceEqDiff, reduceCtorEq, AS, t0, t5, t7, t21, t22, v5.sl.Xlen, hlr]
  refine loop_of (fun t w' => t 0 = p ∧ t 5 = s5 ∧ t 6 = s6' ∧ RowKit.Below w.heap.size w w' ∧ Sl w' s6' ((List.range N).map wel) ∧ ∃ (x : Nat) (L : List (El 16)), t 11 = .int .i64 (x : Int) ∧ 1 ≤ x ∧ x ≤ N ∧ Ow w.heap.size w' s5 L ∧ L.length = N ∧ (∀ y (hy : y < L.length), 0 < y → y < x → gq L[y].v.toNat = (wel y).v ∧ L[y].v.toNat < 65535) ∧ ∀ h : 0 < L.length, L[0].v.toNat = 0) (fun t _ => N - (toI (t 11)).toNat)
    ⟨by simp only [WS, List.getElem_cons_zero, List.getElem_cons_succ, Option.isNone_some, Option.isNone_none, List.getD_cons_zero, List.getD_cons_succ, I.at, atL, atO, atP, evp, evs, retV, ↓reduceIte, Nat.reduceEqDiff, reduceCtorEq]; exact t0, by simp only [WS, List.getElem_cons_zero, List.getElem_cons_succ, Option.isNone_some, Option.isNone_none, List.getD_cons_zero, List.getD_cons_succ, I.at, atL, atO, atP, evp, evs, retV, ↓reduceIte, Nat.reduceEqDiff, reduceCtorEq]; exact t5, by simp only [WS, List.getElem_cons_zero, List.getElem_cons_succ, Option.isNone_some, Option.isNone_none, List.getD_cons_zero, List.getD_cons_succ, I.at, atL, atO, atP, evp, evs, retV, ↓reduceIte, Nat.reduceEqDiff, reduceCtorEq]; exact t6, B, v6, 1, _, by simp only [WS, List.getElem_cons_zero, List.getElem_cons_succ, Option.isNone_some, Option.isNone_none, List.getD_cons_zero, List.getD_cons_succ, I.at, atL, atO, atP, evp, evs, retV, ↓reduceIte, Nat.reduceEqDiff, reduceCtorEq]; rfl, by omega, by omega, v5, hlr, fun y hy h1 h2 => by omega, fun h => by rw [List.getElem_replicate]; exact hz0⟩ ?_
  clear t0 t5 t7 t21 t22 t6 B v6 v5 o6 C o7 hsz
  rintro t w5 ⟨t0, t5, t6, B, v6, x, L, t11, hx1, hxN, oL, hLl, hLv, hL0⟩
  by_cases hlt : x < N
  · have jv : x < ((List.range N).map wel).length := by rw [hl6]; exact hlt
    have ev : ((List.range N).map wel)[x] = wel x := by rw [List.getElem_map, List.getElem_range]
    have hwx : wel x ≠ 0 := fun e => by
      have := wel_inj (i := x) (j := 0) (by omega) (by omega) (by rw [e, wel_zero])
      omega
    have ix : x < L.length := by omega
    simp (maxSteps := 1000000) (disch := omega) only [WS, List.getElem_cons_zero, List.getElem_cons_succ, Option.isNone_some, Option.isNone_none, List.getD_cons_zero, List.getD_cons_succ, I.at, atL, atO, atP, evp, evs, retV, ↓reduceIte, Nat.reduceEqDiff, reduceCtorEq, AS, t0, t5, t6, t11, oL.sl.Xlen, hLl, v6.Xix jv, v6.Xld jv, ev, cell_e16]
    refine X_call0 ((gf16_Tables_Log_spec w5 p (hT.up B) (wel x) hwx).mono ?_)
    rintro _ w' ⟨rfl, n, rfl, hn, hgn⟩
    have u1 : IntKind.u16.wrap ((n : Nat) : Int) = (n : Int) := wrap_u16 _ (by omega)
    simp (maxSteps := 1000000) (disch := omega) only [WS, List.getElem_cons_zero, List.getElem_cons_succ, Option.isNone_some, Option.isNone_none, List.getD_cons_zero, List.getD_cons_succ, I.at, atL, atO, atP, evp, evs, retV, ↓reduceIte, Nat.reduceEqDiff, reduceCtorEq, AS, t0, t5, t6, t11, u1, oL.sl.Xix ix]
    rw [en_c (show n < 65536 by omega)]
    refine Ow.Xst oL ix (en n) fun w6 oL2 hg => ?_
    have v6 := v6.grown hg (Or.inl hne2)
    have B := B.grown hg B.size fun b hb => (oL.blk b hb).1
    simp (maxSteps := 1000000) (disch := omega) only [WS, List.getElem_cons_zero, List.getElem_cons_succ, Option.isNone_some, Option.isNone_none, List.getD_cons_zero, List.getD_cons_succ, I.at, atL, atO, atP, evp, evs, retV, ↓reduceIte, Nat.reduceEqDiff, reduceCtorEq, AS, t0, t5, t6, t11]
    refine ⟨⟨B, v6, x + 1, _, rfl, by omega, by omega, oL2, by rw [List.length_set]; exact hLl, fun y hy h1 h2 => ?_, fun h => ?_⟩, by omega⟩
    · rw [List.getElem_set]
      by_cases e : x = y
      · rw [if_pos e, en_v (by omega), ← e]; exact ⟨hgn, hn⟩
      · rw [if_neg e]; exact hLv y (by rw [List.length_set] at hy; exact hy) h1 (by omega)
    · rw [List.getElem_set_ne (by omega)]; exact hL0 (by rw [List.length_set] at h; exact h)
  · have hxe : x = N := by omega
    simp (maxSteps := 1000000) (disch := omega) only [WS, List.getElem_cons_zero, List.getElem_cons_succ, Option.isNone_some, Option.isNone_none, List.getD_cons_zero, List.getD_cons_succ, I.at, atL, atO, atP, evp, evs, retV, ↓reduceIte, Nat.reduceEqDiff, reduceCtorEq, AS, t0, t5, t6, t11, oL.sl.Xlen, hLl]
    exact ⟨L, oL, hLl, fun i hi h1 => hLv i hi h1 (by omega), hL0, B⟩
end Go.Proofs.Ytbaljbadlfopgaa.Fw

/- Polynomials with as many zeros as coefficients; the vanishing polynomial of the first elements. Plain maths. -/
set_option linter.unusedVariables false
namespace Go.Fw
section
variable {n : Nat} [F : Fd n]
end
end Go.Fw

/- Newton's form: divided differences give the values back. -/
set_option linter.unusedVariables false
set_option linter.unusedSimpArgs false
namespace Go.Fw
open Go
section
variable {n : Nat} [F : Fd n]
end
end Go.Fw
