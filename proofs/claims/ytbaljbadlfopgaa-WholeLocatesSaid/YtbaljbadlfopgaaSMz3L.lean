import Derived.Test.YtbaljbadlfopgaaProg
import Derived.Test.YtbaljbadlfopgaaFwTL
import Derived.Test.YtbaljbadlfopgaaGfXL
import Derived.Test.YtbaljbadlfopgaaGfWlL
set_option linter.all false
set_option linter.unusedVariables false
set_option linter.unusedSimpArgs false
set_option maxRecDepth 100000
set_option maxHeartbeats 1000000
namespace Go.Proofs.Ytbaljbadlfopgaa.Fw
open Go Go.Fw Go.Proofs
attribute [local irreducible] stepI
def c_walsh_Products : C := .seq (.ops [⟨0, (some 4), none, .mov (.c (.slice none 0 0)), []⟩, ⟨1, (some 5), none, .mov (.c (.int .i64 0)), []⟩]) (.seq (.ops [⟨0, (some 11), none, .call (.c (.func (.func 67) #[] #[])) [], []⟩, ⟨1, (some 6), none, .mov (.t 11), []⟩]) (.seq (.ops [⟨0, (some 13), none, .mov (.t 6), []⟩, ⟨1, (some 14), none, .mov (.t 0), []⟩, ⟨2, (some 15), none, .mov (.t 1), []⟩, ⟨3, (some 16), none, .call (.c (.func (.func 74) #[] #[])) [.t 13, .t 14, .t 15], []⟩, ⟨4, (some 12), none, .mov (.t 16), []⟩, ⟨5, (some 17), none, .ext (.t 12) 0, []⟩, ⟨6, (some 18), none, .ext (.t 12) 1, []⟩, ⟨7, (some 7), none, .mov (.t 17), []⟩, ⟨8, (some 8), none, .mov (.t 18), []⟩]) (.seq (.seq (.ops [⟨0, (some 19), none, .mov (.t 8), []⟩, ⟨1, (some 20), none, .bin .neq (.t 19) (.c (.int .i64 0)), []⟩]) (.ite (.t 20) (.seq (.ops [⟨0, (some 21), none, .mov (.t 8), []⟩, ⟨1, (some 4), none, .mov (.c (.slice none 0 0)), []⟩, ⟨2, (some 5), none, .mov (.t 21), []⟩]) .ret) .skip)) (.seq (.seq (.ops [⟨0, (some 22), none, .mov (.t 7), []⟩, ⟨1, (some 23), none, .len (.t 22), []⟩, ⟨2, (some 24), none, .mov (.c (.int .i64 0)), []⟩]) (.block 0 (.loop (.seq (.ops [⟨0, (some 25), none, .bin .lss (.t 24) (.t 23), []⟩]) (.seq (.ite (.t 25) .skip (.exit 0)) (.seq (.block 1 (.seq (.ops [⟨0, (some 26), none, .mov (.t 24), []⟩, ⟨1, (some 27), none, .ixs 1 (.t 22) (.t 24), []⟩, ⟨2, (some 28), none, .ld (.t 27), []⟩, ⟨3, (some 9), none, .mov (.t 26), []⟩, ⟨4, (some 10), none, .mov (.t 28), []⟩]) (.ops [⟨0, (some 29), none, .mov (.t 7), []⟩, ⟨1, (some 30), none, .mov (.t 9), []⟩, ⟨2, (some 31), none, .mov (.t 6), []⟩, ⟨3, (some 32), none, .mov (.t 10), []⟩, ⟨4, (some 33), none, .cnv .i64 (.t 32), []⟩, ⟨5, (some 34), none, .call (.c (.func (.func 75) #[] #[])) [.t 31, .t 33], []⟩, ⟨6, (some 35), none, .ixs 1 (.t 29) (.t 30), []⟩, ⟨7, none, none, .st (.t 35) (.t 34), []⟩]))) (.ops [⟨0, (some 36), none, .bin .add (.t 24) (.c (.int .i64 1)), []⟩, ⟨1, (some 24), none, .mov (.t 36), []⟩]))))))) (.seq (.ops [⟨0, (some 37), none, .mov (.t 7), []⟩, ⟨1, (some 4), none, .mov (.t 37), []⟩, ⟨2, (some 5), none, .mov (.c (.int .i64 0)), []⟩]) .ret)))))
attribute [irreducible] c_walsh_Products
theorem run_walsh_Products {args : List Value} {w : World} {K : Value → World → Prop} (hn : args.length ≤ 38) (h : WP Try.prog c_walsh_Products (endQ [.t 4, .t 5] K) (initT args) w) : CallV Try.prog 39 args w K :=
  call_of follows Try.func39 (by kernel_rfl) (by kernel_rfl) hn h
def c_walsh_locator : C := .seq (.ops [⟨0, (some 6), none, .mov (.c (.slice none 0 0)), []⟩, ⟨1, (some 7), none, .mov (.c (.int .i64 0)), []⟩]) (.seq (.seq (.ops [⟨0, (some 13), none, .mov (.t 2), []⟩, ⟨1, (some 14), none, .bin .lss (.t 13) (.c (.int .i64 0)), []⟩, ⟨2, (some 15), none, .mov (.t 14), []⟩, ⟨3, (some 16), (some (15, false)), .mov (.t 2), []⟩, ⟨4, (some 17), (some (15, false)), .bin .gtr (.t 16) (.c (.int .i64 16)), []⟩, ⟨5, (some 18), none, .pick (.t 15) (.c (.bool true)) (.t 17), []⟩]) (.ite (.t 18) (.seq (.ops [⟨0, (some 6), none, .mov (.c (.slice none 0 0)), []⟩, ⟨1, (some 7), none, .mov (.c (.int .i64 7)), []⟩]) .ret) .skip)) (.seq (.seq (.ops [⟨0, (some 19), none, .mov (.t 1), []⟩, ⟨1, (some 20), none, .len (.t 19), []⟩, ⟨2, (some 21), none, .mov (.c (.int .i64 0)), []⟩]) (.block 0 (.loop (.seq (.ops [⟨0, (some 22), none, .bin .lss (.t 21) (.t 20), []⟩]) (.seq (.ite (.t 22) .skip (.exit 0)) (.seq (.block 1 (.seq (.ops [⟨0, (some 23), none, .mov (.t 21), []⟩, ⟨1, (some 24), none, .ixs 1 (.t 19) (.t 21), []⟩, ⟨2, (some 25), none, .ld (.t 24), []⟩, ⟨3, (some 8), none, .mov (.t 23), []⟩, ⟨4, (some 9), none, .mov (.t 25), []⟩]) (.seq (.ops [⟨0, (some 26), none, .mov (.t 9), []⟩, ⟨1, (some 27), none, .bin .lss (.t 26) (.c (.int .i64 0)), []⟩, ⟨2, (some 28), none, .mov (.t 27), []⟩, ⟨3, (some 29), (some (28, false)), .mov (.t 9), []⟩, ⟨4, (some 30), (some (28, false)), .mov (.t 2), []⟩, ⟨5, (some 31), (some (28, false)), .bin .shl (.c (.int .i64 1)) (.t 30), []⟩, ⟨6, (some 32), (some (28, false)), .bin .geq (.t 29) (.t 31), []⟩, ⟨7, (some 33), none, .pick (.t 28) (.c (.bool true)) (.t 32), []⟩, ⟨8, (some 34), none, .mov (.t 33), []⟩, ⟨9, (some 35), (some (34, false)), .mov (.t 8), []⟩, ⟨10, (some 36), (some (34, false)), .bin .gtr (.t 35) (.c (.int .i64 0)), []⟩, ⟨11, (some 37), (some (34, false)), .mov (.t 36), []⟩, ⟨12, (some 38), (some (37, true)), .mov (.t 9), []⟩, ⟨13, (some 39), (some (37, true)), .mov (.t 1), []⟩, ⟨14, (some 40), (some (37, true)), .mov (.t 8), []⟩, ⟨15, (some 41), (some (37, true)), .bin .sub (.t 40) (.c (.int .i64 1)), []⟩, ⟨16, (some 42), (some (37, true)), .ixs 1 (.t 39) (.t 41), []⟩, ⟨17, (some 43), (some (37, true)), .ld (.t 42), []⟩, ⟨18, (some 44), (some (37, true)), .bin .leq (.t 38) (.t 43), []⟩, ⟨19, (some 45), (some (34, false)), .pick (.t 37) (.t 44) (.c (.bool false)), []⟩, ⟨20, (some 46), none, .pick (.t 34) (.c (.bool true)) (.t 45), []⟩]) (.ite (.t 46) (.seq (.ops [⟨0, (some 6), none, .mov (.c (.slice none 0 0)), []⟩, ⟨1, (some 7), none, .mov (.c (.int .i64 31)), []⟩]) .ret) .skip)))) (.ops [⟨0, (some 47), none, .bin .add (.t 21) (.c (.int .i64 1)), []⟩, ⟨1, (some 21), none, .mov (.t 47), []⟩]))))))) (.seq (.ops [⟨0, (some 48), none, .mov (.t 2), []⟩, ⟨1, (some 49), none, .bin .shl (.c (.int .i64 1)) (.t 48), []⟩, ⟨2, (some 50), none, .mks 73 2 [.int .u16 0] (.t 49) (.t 49), []⟩, ⟨3, (some 10), none, .mov (.t 50), []⟩]) (.seq (.seq (.ops [⟨0, (some 51), none, .mov (.t 1), []⟩, ⟨1, (some 52), none, .len (.t 51), []⟩, ⟨2, (some 53), none, .mov (.c (.int .i64 0)), []⟩]) (.block 2 (.loop (.seq (.ops [⟨0, (some 54), none, .bin .lss (.t 53) (.t 52), []⟩]) (.seq (.ite (.t 54) .skip (.exit 2)) (.seq (.block 3 (.seq (.ops [⟨0, (some 55), none, .ixs 1 (.t 51) (.t 53), []⟩, ⟨1, (some 56), none, .ld (.t 55), []⟩, ⟨2, (some 12), none, .mov (.t 56), []⟩]) (.ops [⟨0, (some 57), none, .mov (.t 10), []⟩, ⟨1, (some 58), none, .mov (.t 12), []⟩, ⟨2, (some 59), none, .ixs 1 (.t 57) (.t 58), []⟩, ⟨3, none, none, .st (.t 59) (.c (.int .u16 1)), []⟩]))) (.ops [⟨0, (some 60), none, .bin .add (.t 53) (.c (.int .i64 1)), []⟩, ⟨1, (some 53), none, .mov (.t 60), []⟩]))))))) (.seq (.ops [⟨0, (some 61), none, .mov (.t 10), []⟩, ⟨1, (some 62), none, .mov (.t 0), []⟩, ⟨2, (some 63), none, .mov (.t 2), []⟩, ⟨3, (some 64), none, .call (.c (.func (.func 112) #[] #[])) [.t 62, .t 63], []⟩, ⟨4, (some 65), none, .call (.c (.func (.func 111) #[] #[])) [.t 61, .t 64], []⟩]) (.seq (.ops [⟨0, (some 66), none, .mov (.t 10), []⟩, ⟨1, (some 6), none, .mov (.t 66), []⟩, ⟨2, (some 7), none, .mov (.c (.int .i64 0)), []⟩]) .ret))))))
attribute [irreducible] c_walsh_locator
theorem run_walsh_locator {args : List Value} {w : World} {K : Value → World → Prop} (hn : args.length ≤ 67) (h : WP Try.prog c_walsh_locator (endQ [.t 6, .t 7] K) (initT args) w) : CallV Try.prog 74 args w K :=
  call_of follows Try.func74 (by kernel_rfl) (by kernel_rfl) hn h
end Go.Proofs.Ytbaljbadlfopgaa.Fw
namespace Go.Proofs.Ytbaljbadlfopgaa.Fw
open Go Go.Fw
def iN (l : List Nat) : List Int := l.map fun (n : Nat) => (n : Int)
theorem iN_len (l : List Nat) : (iN l).length = l.length := List.length_map ..
theorem iN_get {l : List Nat} {i : Nat} (h : i < (iN l).length) (h' : i < l.length) : (iN l)[i] = (l[i] : Int) := List.getElem_map ..
def Two {α : Type} [Cell α] (B : Nat) (w0 : World) (s1 s2 : Value) (a b : List α) (w : World) : Prop := Ow B w s1 a ∧ Ow B w s2 b ∧ RowKit.Below B w0 w ∧ B ≤ w.heap.size
theorem two_1 {α : Type} [Cell α] (B : Nat) (w0 : World) {s1 s2 : Value} (hne : Fw.blk s1 ≠ Fw.blk s2) (b : List α) : Wr (fun a w => Two B w0 s1 s2 a b w) s1 where
  sl := fun l w h => h.1.sl
  st := fun l w i x h hi => by
    obtain ⟨h1, h2, h3, h4⟩ := h
    have := st_ow h1 hi x (K := fun w' => Ow B w' s1 (l.set i x) ∧ w.grownBy w' (Fw.blk s1)) fun w' ho hg => ⟨ho, hg⟩
    obtain ⟨_, hf, _, ho, hg⟩ := this
    exact ⟨hf, ho, h2.grown hg fun e => hne e.symm, h3.grown hg h4 fun b hb => (h1.blk b hb).1, Nat.le_trans h4 hg.size⟩
  up := fun l w w' h hb => ⟨h.1.up hb, h.2.1.up hb, h.2.2.1.trans (hb.mono h.2.2.2), Nat.le_trans h.2.2.2 hb.size⟩
theorem two_2 {α : Type} [Cell α] (B : Nat) (w0 : World) {s1 s2 : Value} (hne : Fw.blk s1 ≠ Fw.blk s2) (a : List α) : Wr (fun b w => Two B w0 s1 s2 a b w) s2 where
  sl := fun l w h => h.2.1.sl
  st := fun l w i x h hi => by
    obtain ⟨h1, h2, h3, h4⟩ := h
    have := st_ow h2 hi x (K := fun w' => Ow B w' s2 (l.set i x) ∧ w.grownBy w' (Fw.blk s2)) fun w' ho hg => ⟨ho, hg⟩
    obtain ⟨_, hf, _, ho, hg⟩ := this
    exact ⟨hf, h1.grown hg hne, ho, h3.grown hg h4 fun b hb => (h2.blk b hb).1, Nat.le_trans h4 hg.size⟩
  up := fun l w w' h hb => ⟨h.1.up hb, h.2.1.up hb, h.2.2.1.trans (hb.mono h.2.2.2), Nat.le_trans h.2.2.2 hb.size⟩
theorem walsh_locator_spec (w : World) (p s : Value) (hT : Tab16 w p) (l : List Nat) (hs : Sl w s (iN l)) (r : Nat) (hr : r ≤ 16) (hd : l.Nodup) (hlt : ∀ e ∈ l, e < 2 ^ r) (hinc : ∀ i j (hi : i < l.length) (hj : j < l.length), i < j → l[i] < l[j]) :
    CallV Try.prog 74 [p, s, .int .i64 (r : Int)] w fun v w' => ∃ (sv : Value) (a : List (El 16)), v = .tuple #[sv, .int .i64 0] ∧ Ow w.heap.size w' sv a ∧ a.length = 2 ^ r ∧ (∀ i (hi : i < a.length), (⟨gq a[i].v.toNat⟩ : El 16) = pl i l) ∧ RowKit.Below w.heap.size w w' := by
  refine run_walsh_locator (by simp) ?_
  have hr16 := pow_le16' hr
  have h0 := Nat.two_pow_pos r
  have hsh : ∀ i : Nat, i ≤ 16 → shlV .i64 1 (i : Int) = ((2 ^ i : Nat) : Int) := fun i hi => by
    have h1 := pow_le16' hi
    have := shl_nat fits_i64 1 i (by show i ≤ 64; omega) (by rw [Nat.one_mul]; exact Nat.pow_lt_pow_right (by omega) (by omega))
    rw [Nat.one_shiftLeft] at this
    exact this
  have hsr := hsh r hr
  have hll : l.length ≤ 2 ^ r := nodup_len (2 ^ r) l hd hlt
  have hlg : ∀ i (hi : i < l.length), l[i] < 2 ^ r := fun i hi => hlt _ (List.getElem_mem hi)
  simp only [c_walsh_locator, WS, List.getElem_cons_zero, List.getElem_cons_succ, Option.isNone_some, Option.isNone_none, List.getD_cons_zero, List.getD_cons_succ, I.at, atL, atO, atP, evp, evs, retV, ↓reduceIte, Nat.reduceEqDiff, reduceCtorEq]
  have hil := iN_len l
  simp (maxSteps := 1000000) (disch := omega) only [WS, List.getElem_cons_zero, List.getElem_cons_succ, Option.isNone_some, Option.isNone_none, List.getD_cons_zero, List.getD_cons_succ, I.at, atL, atO, atP, evp, evs, retV, ↓reduceIte, Nat.reduceEqDiff, reduceCtorEq, AS, hs.Xlen, hil]
  refine loop_of (fun t w' => w' = w ∧ t 0 = p ∧ t 1 = s ∧ t 2 = .int .i64 (r : Int) ∧ t 19 = s ∧ t 20 = .int .i64 (l.length : Int) ∧ ∃ i : Nat, t 21 = .int .i64 (i : Int) ∧ i ≤ l.length) (fun t _ => l.length - (toI (t 21)).toNat)
    ⟨rfl, by simp only [WS, List.getElem_cons_zero, List.getElem_cons_succ, Option.isNone_some, Option.isNone_none, List.getD_cons_zero, List.getD_cons_succ, I.at, atL, atO, atP, evp, evs, retV, ↓reduceIte, Nat.reduceEqDiff, reduceCtorEq], by simp only [WS, List.getElem_cons_zero, List.getElem_cons_succ, Option.isNone_some, Option.isNone_none, List.getD_cons_zero, List.getD_cons_succ, I.at, atL, atO, atP, evp, evs, retV, ↓reduceIte, Nat.reduceEqDiff, reduceCtorEq], by simp only [WS, List.getElem_cons_zero, List.getElem_cons_succ, Option.isNone_some, Option.isNone_none, List.getD_cons_zero, List.getD_cons_succ, I.at, atL, atO, atP, evp, evs, retV, ↓reduceIte, Nat.reduceEqDiff, reduceCtorEq], by simp only [WS, List.getElem_cons_zero, List.getElem_cons_succ, Option.isNone_some, Option.isNone_none, List.getD_cons_zero, List.getD_cons_succ, I.at, atL, atO, atP, evp, evs, retV, ↓reduceIte, Nat.reduceEqDiff, reduceCtorEq], by simp only [WS, List.getElem_cons_zero, List.getElem_cons_succ, Option.isNone_some, Option.isNone_none, List.getD_cons_zero, List.getD_cons_succ, I.at, atL, atO, atP, evp, evs, retV, ↓reduceIte, Nat.reduceEqDiff, reduceCtorEq], 0, by simp only [WS, List.getElem_cons_zero, List.getElem_cons_succ, Option.isNone_some, Option.isNone_none, List.getD_cons_zero, List.getD_cons_succ, I.at, atL, atO, atP, evp, evs, retV, ↓reduceIte, Nat.reduceEqDiff, reduceCtorEq]; rfl, by omega⟩ ?_
  rintro t w' ⟨rfl, t0, t1, t2, t19, t20, i, t21, hi⟩
  by_cases hil2 : i < l.length
  · have ii : i < (iN l).length := by omega
    have ei := iN_get ii hil2
    have hgi := hlg i hil2
    by_cases hi0 : 0 < i
    · have ij : i - 1 < (iN l).length := by omega
      have ej := iN_get ij (show i - 1 < l.length by omega)
      have hlt2 := hinc (i - 1) i (by omega) hil2 (by omega)
      simp (maxSteps := 1000000) (disch := omega) only [WS, List.getElem_cons_zero, List.getElem_cons_succ, Option.isNone_some, Option.isNone_none, List.getD_cons_zero, List.getD_cons_succ, I.at, atL, atO, atP, evp, evs, retV, ↓reduceIte, Nat.reduceEqDiff, reduceCtorEq, AS, t0, t1, t2, t19, t20, t21, hs.Xix ii, hs.Xld ii, ei, cell_int, X_shl, Int.natCast_nonneg, hsr, hs.Xix ij, hs.Xld ij, ej]
      refine ⟨⟨i + 1, rfl, by omega⟩, by omega⟩
    · obtain rfl : i = 0 := by omega
      simp (maxSteps := 1000000) (disch := omega) only [WS, List.getElem_cons_zero, List.getElem_cons_succ, Option.isNone_some, Option.isNone_none, List.getD_cons_zero, List.getD_cons_succ, I.at, atL, atO, atP, evp, evs, retV, ↓reduceIte, Nat.reduceEqDiff, reduceCtorEq, AS, t0, t1, t2, t19, t20, t21, hs.Xix ii, hs.Xld ii, ei, cell_int, X_shl, Int.natCast_nonneg, hsr, show decide (((0 : Nat) : Int) > 0) = false from rfl]
      refine ⟨⟨1, rfl, by omega⟩, by omega⟩
  obtain ⟨N, hN⟩ : ∃ N, N = 2 ^ r := ⟨_, rfl⟩
  simp (maxSteps := 1000000) (disch := omega) only [WS, List.getElem_cons_zero, List.getElem_cons_succ, Option.isNone_some, Option.isNone_none, List.getD_cons_zero, List.getD_cons_succ, I.at, atL, atO, atP, evp, evs, retV, ↓reduceIte, Nat.reduceEqDiff, reduceCtorEq, AS, t0, t1, t2, t19, t20, t21, X_shl, Int.natCast_nonneg, hsr]
  rw [← hN] at hr16 h0 hll hlt hlg hsr ⊢
  refine X_mks (x := (0 : El 16)) (n := N) (by simp only [maxBytes]; omega) (by omega) fun s10 w1 o10 hB => ?_
  have B := hB
  have hs := hs.up hB
  clear hB
  simp (maxSteps := 1000000) (disch := omega) only [WS, List.getElem_cons_zero, List.getElem_cons_succ, Option.isNone_some, Option.isNone_none, List.getD_cons_zero, List.getD_cons_succ, I.at, atL, atO, atP, evp, evs, retV, ↓reduceIte, Nat.reduceEqDiff, reduceCtorEq, AS, t0, t1, t2, hs.Xlen, hil]
  have hz0 : (0 : El 16).v.toNat = 0 := rfl
  have hz1 : (1 : El 16).v.toNat = 1 := rfl
  refine loop_of (fun t w2 => t 0 = p ∧ t 2 = .int .i64 (r : Int) ∧ t 10 = s10 ∧ t 51 = s ∧ t 52 = .int .i64 (l.length : Int) ∧ RowKit.Below w'.heap.size w' w2 ∧ ∃ (k : Nat) (A : List (El 16)), t 53 = .int .i64 (k : Int) ∧ k ≤ l.length ∧ Ow w'.heap.size w2 s10 A ∧ A.length = N ∧ ∀ j (hj : j < A.length), A[j].v.toNat = mk (l.take k) j) (fun t _ => l.length - (toI (t 53)).toNat)
    ⟨by simp only [WS, List.getElem_cons_zero, List.getElem_cons_succ, Option.isNone_some, Option.isNone_none, List.getD_cons_zero, List.getD_cons_succ, I.at, atL, atO, atP, evp, evs, retV, ↓reduceIte, Nat.reduceEqDiff, reduceCtorEq]; exact t0, by simp only [WS, List.getElem_cons_zero, List.getElem_cons_succ, Option.isNone_some, Option.isNone_none, List.getD_cons_zero, List.getD_cons_succ, I.at, atL, atO, atP, evp, evs, retV, ↓reduceIte, Nat.reduceEqDiff, reduceCtorEq]; exact t2, by simp only [WS, List.getElem_cons_zero, List.getElem_cons_succ, Option.isNone_some, Option.isNone_none, List.getD_cons_zero, List.getD_cons_succ, I.at, atL, atO, atP, evp, evs, retV, ↓reduceIte, Nat.reduceEqDiff, reduceCtorEq], by simp only [WS, List.getElem_cons_zero, List.getElem_cons_succ, Option.isNone_some, Option.isNone_none, List.getD_cons_zero, List.getD_cons_succ, I.at, atL, atO, atP, evp, evs, retV, ↓reduceIte, Nat.reduceEqDiff, reduceCtorEq], by simp only [WS, List.getElem_cons_zero, List.getElem_cons_succ, Option.isNone_some, Option.isNone_none, List.getD_cons_zero, List.getD_cons_succ, I.at, atL, atO, atP, evp, evs, retV, ↓reduceIte, Nat.reduceEqDiff, reduceCtorEq], B, 0, _, by simp only [WS, List.getElem_cons_zero, List.getElem_cons_succ, Option.isNone_some, Option.isNone_none, List.getD_cons_zero, List.getD_cons_succ, I.at, atL, atO, atP, evp, evs, retV, ↓reduceIte, Nat.reduceEqDiff, reduceCtorEq]; rfl, by omega, o10, List.length_replicate .., fun j hj => by rw [List.getElem_replicate]; simp [mk, hz0]⟩ ?_
  clear t0 t1 t2 t19 t20 t21 B o10 hi hil2 i hs
  rintro t w2 ⟨t0, t2, t10, t51, t52, B, k, A, t53, hk, oA, hAl, hAv⟩
  have hs := hs.up B
  by_cases hlt3 : k < l.length
  · have ik : k < (iN l).length := by omega
    have ek := iN_get ik hlt3
    have hgk := hlg k hlt3
    have iA : l[k] < A.length := by omega
    simp (maxSteps := 1000000) (disch := omega) only [WS, List.getElem_cons_zero, List.getElem_cons_succ, Option.isNone_some, Option.isNone_none, List.getD_cons_zero, List.getD_cons_succ, I.at, atL, atO, atP, evp, evs, retV, ↓reduceIte, Nat.reduceEqDiff, reduceCtorEq, AS, t0, t2, t10, t51, t52, t53, hs.Xix ik, hs.Xld ik, ek, cell_int, oA.sl.Xix iA]
    refine Ow.Xst oA iA (1 : El 16) fun w4 oA2 hg => ?_
    have B := B.grown hg B.size fun b hb => (oA.blk b hb).1
    simp (maxSteps := 1000000) (disch := omega) only [WS, List.getElem_cons_zero, List.getElem_cons_succ, Option.isNone_some, Option.isNone_none, List.getD_cons_zero, List.getD_cons_succ, I.at, atL, atO, atP, evp, evs, retV, ↓reduceIte, Nat.reduceEqDiff, reduceCtorEq, AS, t0, t2, t10, t51, t52, t53]
    refine ⟨⟨B, k + 1, _, rfl, by omega, oA2, by rw [List.length_set]; exact hAl, fun j hj => ?_⟩, by omega⟩
    have htk : l.take (k + 1) = l.take k ++ [l[k]] := (List.take_append_getElem hlt3).symm
    rw [List.getElem_set, htk]
    by_cases c : l[k] = j
    · rw [if_pos c, hz1]; unfold mk; rw [if_pos (List.mem_append_right _ (List.mem_singleton.2 c.symm))]
    · rw [if_neg c, hAv j (by rw [List.length_set] at hj; exact hj)]
      unfold mk
      by_cases c2 : j ∈ l.take k
      · rw [if_pos c2, if_pos (List.mem_append_left _ c2)]
      · rw [if_neg c2, if_neg (fun h => by
          rcases List.mem_append.1 h with h | h
          · exact c2 h
          · exact c (List.mem_singleton.1 h).symm)]
  have hke : k = l.length := by omega
  rw [hke, List.take_length] at hAv
  simp (maxSteps := 1000000) (disch := omega) only [WS, List.getElem_cons_zero, List.getElem_cons_succ, Option.isNone_some, Option.isNone_none, List.getD_cons_zero, List.getD_cons_succ, I.at, atL, atO, atP, evp, evs, retV, ↓reduceIte, Nat.reduceEqDiff, reduceCtorEq, AS, t0, t2, t10, t51, t52, t53]
  refine X_call0 ((walsh_logs_spec w2 p (hT.up B) r hr).mono ?_)
  rintro sl w3 ⟨L, oL, hLl, hLv, hL0, hB⟩
  rw [← hN] at hLl
  have hne : Fw.blk s10 ≠ Fw.blk sl := fun e => by
    have oL' := oL
    rcases oL' with ⟨-, h⟩ | ⟨b, cap, rest, rfl, h1, -, h2⟩
    · rw [h] at hLl; simp at hLl; omega
    · have := (oA.blk b e).2
      omega
  have oL := oL.mono B.size
  have oA := oA.up hB
  have B := B.trans (hB.mono B.size)
  clear hB
  simp (maxSteps := 1000000) (disch := omega) only [WS, List.getElem_cons_zero, List.getElem_cons_succ, Option.isNone_some, Option.isNone_none, List.getD_cons_zero, List.getD_cons_succ, I.at, atL, atO, atP, evp, evs, retV, ↓reduceIte, Nat.reduceEqDiff, reduceCtorEq, AS, t0, t2, t10]
  have hgl : ∀ x (hx : x < L.length), (L.getD x 0).v.toNat = L[x].v.toNat := fun x hx => by rw [List.getD_eq_getElem?_getD, List.getElem?_eq_getElem hx]; rfl
  have hL65 : ∀ x (hx : x < L.length), L[x].v.toNat < 65535 := fun x hx => by
    by_cases h : x = 0
    · subst h; rw [hL0 hx]; decide
    · exact (hLv x hx (by omega)).2
  have hva : ∀ i (hi : i < A.length), A[i].v.toNat = md ((mk l i : Nat) : Int) := fun i hi => by
    rw [hAv i hi, md_nat, Nat.mod_eq_of_lt]
    unfold mk
    split <;> decide
  have hvb : ∀ i (hi : i < L.length), L[i].v.toNat = md (((L.getD i 0).v.toNat : Nat) : Int) := fun i hi => by
    rw [hgl i hi, md_nat, Nat.mod_eq_of_lt (hL65 i hi)]
  refine X_call0 ((walsh_convolved_spec (M := Two w'.heap.size w' s10 sl) (fun b => two_1 _ _ hne b) (fun a => two_2 _ _ hne a) w3 A L r (fun j => (mk l j : Int)) (fun j => ((L.getD j 0).v.toNat : Int)) ⟨oA, oL, B, B.size⟩ (by rw [hAl, hN]) (by rw [hLl, hN]) hr hva hvb).mono ?_)
  rintro _ w4 ⟨rfl, a', b', ⟨oa, -, B2, -⟩, hal, hav⟩
  simp (maxSteps := 1000000) (disch := omega) only [WS, List.getElem_cons_zero, List.getElem_cons_succ, Option.isNone_some, Option.isNone_none, List.getD_cons_zero, List.getD_cons_succ, I.at, atL, atO, atP, evp, evs, retV, ↓reduceIte, Nat.reduceEqDiff, reduceCtorEq, AS, t10]
  refine ⟨s10, a', rfl, oa, by rw [hal, hN], fun i hi => ?_, B2⟩
  rw [hav i hi]
  rw [hN] at hlt hLl
  refine loc_law r hr l hd hlt (fun j => (L.getD j 0).v.toNat) ?_ (fun x hx1 hx2 => ?_) i (by omega)
  · rw [hgl 0 (by omega)]; exact hL0 (by omega)
  · rw [hgl x (by omega)]; exact (hLv x (by omega) hx1).1
theorem walsh_Products_spec (w : World) (s : Value) (l : List Nat) (hs : Sl w s (iN l)) (r : Nat) (hr : r ≤ 16) (hd : l.Nodup) (hlt : ∀ e ∈ l, e < 2 ^ r) (hinc : ∀ i j (hi : i < l.length) (hj : j < l.length), i < j → l[i] < l[j]) :
    CallV Try.prog 39 [s, .int .i64 (r : Int)] w fun v w' => ∃ (sv : Value) (a : List (El 16)), v = .tuple #[sv, .int .i64 0] ∧ Ow w.heap.size w' sv a ∧ a.length = 2 ^ r ∧ (∀ i (hi : i < a.length), a[i] = pl i l) ∧ RowKit.Below w.heap.size w w' := by
  refine run_walsh_Products (by simp) ?_
  have hr16 := pow_le16' hr
  simp only [c_walsh_Products, WS, List.getElem_cons_zero, List.getElem_cons_succ, Option.isNone_some, Option.isNone_none, List.getD_cons_zero, List.getD_cons_succ, I.at, atL, atO, atP, evp, evs, retV, ↓reduceIte, Nat.reduceEqDiff, reduceCtorEq]
  refine X_call0 ((gf16_New_spec w).mono ?_)
  rintro p w1 ⟨hT, hB⟩
  have B := hB
  have hs := hs.up hB
  clear hB
  simp (maxSteps := 1000000) (disch := omega) only [WS, List.getElem_cons_zero, List.getElem_cons_succ, Option.isNone_some, Option.isNone_none, List.getD_cons_zero, List.getD_cons_succ, I.at, atL, atO, atP, evp, evs, retV, ↓reduceIte, Nat.reduceEqDiff, reduceCtorEq, AS]
  refine X_call0 ((walsh_locator_spec w1 p s hT l hs r hr hd hlt hinc).mono ?_)
  rintro _ w2 ⟨sv, a, rfl, oa, hal, hav, hB⟩
  obtain ⟨N, hN⟩ : ∃ N, N = 2 ^ r := ⟨_, rfl⟩
  rw [← hN] at hal hr16 ⊢
  have C := hB
  clear hB
  simp (maxSteps := 1000000) (disch := omega) only [WS, List.getElem_cons_zero, List.getElem_cons_succ, Option.isNone_some, Option.isNone_none, List.getD_cons_zero, List.getD_cons_succ, I.at, atL, atO, atP, evp, evs, retV, ↓reduceIte, Nat.reduceEqDiff, reduceCtorEq, AS, show decide ((0 : Int) = 0) = true from rfl, oa.sl.Xlen, hal]
  refine loop_of (fun t w' => t 6 = p ∧ t 7 = sv ∧ t 22 = sv ∧ t 23 = .int .i64 (N : Int) ∧ RowKit.Below w1.heap.size w1 w' ∧ ∃ (k : Nat) (A : List (El 16)), t 24 = .int .i64 (k : Int) ∧ k ≤ N ∧ Ow w1.heap.size w' sv A ∧ A.length = N ∧ ∀ j (hj : j < A.length), if j < k then A[j] = pl j l else (⟨gq A[j].v.toNat⟩ : El 16) = pl j l) (fun t _ => N - (toI (t 24)).toNat)
    ⟨by simp only [WS, List.getElem_cons_zero, List.getElem_cons_succ, Option.isNone_some, Option.isNone_none, List.getD_cons_zero, List.getD_cons_succ, I.at, atL, atO, atP, evp, evs, retV, ↓reduceIte, Nat.reduceEqDiff, reduceCtorEq], by simp only [WS, List.getElem_cons_zero, List.getElem_cons_succ, Option.isNone_some, Option.isNone_none, List.getD_cons_zero, List.getD_cons_succ, I.at, atL, atO, atP, evp, evs, retV, ↓reduceIte, Nat.reduceEqDiff, reduceCtorEq], by simp only [WS, List.getElem_cons_zero, List.getElem_cons_succ, Option.isNone_some, Option.isNone_none, List.getD_cons_zero, List.getD_cons_succ, I.at, atL, atO, atP, evp, evs, retV, ↓reduceIte, Nat.reduceEqDiff, reduceCtorEq], by simp only [WS, List.getElem_cons_zero, List.getElem_cons_succ, Option.isNone_some, Option.isNone_none, List.getD_cons_zero, List.getD_cons_succ, I.at, atL, atO, atP, evp, evs, retV, ↓reduceIte, Nat.reduceEqDiff, reduceCtorEq], C, 0, a, by simp only [WS, List.getElem_cons_zero, List.getElem_cons_succ, Option.isNone_some, Option.isNone_none, List.getD_cons_zero, List.getD_cons_succ, I.at, atL, atO, atP, evp, evs, retV, ↓reduceIte, Nat.reduceEqDiff, reduceCtorEq]; rfl, by omega, oa, hal, fun j hj => by rw [if_neg (by omega)]; exact hav j hj⟩ ?_
  clear C oa hal hav
  rintro t w3 ⟨t6, t7, t22, t23, C, k, A, t24, hk, oA, hAl, hAv⟩
  by_cases hlt3 : k < N
  · have iA : k < A.length := by omega
    have hkk := hAv k iA
    rw [if_neg (by omega)] at hkk
    have hb := A[k].v.isLt
    simp (maxSteps := 1000000) (disch := omega) only [WS, List.getElem_cons_zero, List.getElem_cons_succ, Option.isNone_some, Option.isNone_none, List.getD_cons_zero, List.getD_cons_succ, I.at, atL, atO, atP, evp, evs, retV, ↓reduceIte, Nat.reduceEqDiff, reduceCtorEq, AS, t6, t7, t22, t23, t24, oA.sl.Xix iA, oA.sl.Xld iA, cell_e16, w_nat]
    refine X_call0 ((gf16_Tables_Exp_spec w3 p (hT.up C) A[k].v.toNat hb).mono ?_)
    rintro _ w4 ⟨rfl, hL⟩
    have hB := hL.1
    clear hL
    have oA := oA.up hB
    have C := C.trans (hB.mono C.size)
    clear hB
    simp (maxSteps := 1000000) (disch := omega) only [WS, List.getElem_cons_zero, List.getElem_cons_succ, Option.isNone_some, Option.isNone_none, List.getD_cons_zero, List.getD_cons_succ, I.at, atL, atO, atP, evp, evs, retV, ↓reduceIte, Nat.reduceEqDiff, reduceCtorEq, AS, t6, t7, t22, t23, t24, oA.sl.Xix iA]
    rw [show Value.int .u16 ((gq A[k].v.toNat).toNat : Int) = Cell.v (⟨gq A[k].v.toNat⟩ : El 16) from rfl]
    refine Ow.Xst oA iA (⟨gq A[k].v.toNat⟩ : El 16) fun w5 oA2 hg => ?_
    have C := C.grown hg C.size fun b hb => (oA.blk b hb).1
    simp (maxSteps := 1000000) (disch := omega) only [WS, List.getElem_cons_zero, List.getElem_cons_succ, Option.isNone_some, Option.isNone_none, List.getD_cons_zero, List.getD_cons_succ, I.at, atL, atO, atP, evp, evs, retV, ↓reduceIte, Nat.reduceEqDiff, reduceCtorEq, AS, t6, t7, t22, t23, t24]
    refine ⟨⟨C, k + 1, _, rfl, by omega, oA2, by rw [List.length_set]; exact hAl, fun j hj => ?_⟩, by omega⟩
    rw [List.length_set] at hj
    by_cases c : k = j
    · subst c
      rw [if_pos (by omega), List.getElem_set_self]; exact hkk
    · have := hAv j hj
      rw [List.getElem_set_ne c]
      by_cases c2 : j < k
      · rw [if_pos c2] at this; rw [if_pos (by omega)]; exact this
      · rw [if_neg c2] at this; rw [if_neg (by omega)]; exact this
  · simp (maxSteps := 1000000) (disch := omega) only [WS, List.getElem_cons_zero, List.getElem_cons_succ, Option.isNone_some, Option.isNone_none, List.getD_cons_zero, List.getD_cons_succ, I.at, atL, atO, atP, evp, evs, retV, ↓reduceIte, Nat.reduceEqDiff, reduceCtorEq, AS, t6, t7, t22, t23, t24]
    refine ⟨sv, A, rfl, oA.mono B.size, hAl, fun i hi => ?_, B.trans (C.mono B.size)⟩
    have := hAv i hi
    rw [if_pos (by omega)] at this
    exact this
end Go.Proofs.Ytbaljbadlfopgaa.Fw
