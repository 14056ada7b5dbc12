import Derived.Test.YtbaljbadlfopgaaProg
import Derived.Test.YtbaljbadlfopgaaFwTL
import Derived.Test.YtbaljbadlfopgaaSMz3L
import Derived.Test.YtbaljbadlfopgaaGfWlL
set_option linter.all false
set_option linter.unusedVariables false
set_option linter.unusedSimpArgs false
set_option maxRecDepth 100000
set_option maxHeartbeats 1000000
namespace Go.Proofs.Ytbaljbadlfopgaa.Fw
open Go Go.Fw Go.Proofs
attribute [local irreducible] stepI
def c_cullettop_chosen : C := .seq (.ops [⟨0, (some 6), none, .mov (.c (.slice none 0 0)), []⟩]) (.seq (.ops [⟨0, (some 10), none, .mov (.t 0), []⟩, ⟨1, (some 11), none, .mks 3 8 [.int .i64 0] (.t 10) (.t 10), []⟩, ⟨2, (some 7), none, .mov (.t 11), []⟩]) (.seq (.seq (.ops [⟨0, (some 12), none, .mov (.t 7), []⟩, ⟨1, (some 13), none, .len (.t 12), []⟩, ⟨2, (some 14), none, .mov (.c (.int .i64 0)), []⟩]) (.block 0 (.loop (.seq (.ops [⟨0, (some 15), none, .bin .lss (.t 14) (.t 13), []⟩]) (.seq (.ite (.t 15) .skip (.exit 0)) (.seq (.block 1 (.seq (.ops [⟨0, (some 16), none, .mov (.t 14), []⟩, ⟨1, (some 8), none, .mov (.t 16), []⟩]) (.ops [⟨0, (some 17), none, .mov (.t 7), []⟩, ⟨1, (some 18), none, .mov (.t 8), []⟩, ⟨2, (some 19), none, .mov (.t 8), []⟩, ⟨3, (some 20), none, .ixs 1 (.t 17) (.t 18), []⟩, ⟨4, none, none, .st (.t 20) (.t 19), []⟩]))) (.ops [⟨0, (some 21), none, .bin .add (.t 14) (.c (.int .i64 1)), []⟩, ⟨1, (some 14), none, .mov (.t 21), []⟩]))))))) (.seq (.block 2 (.loop (.seq (.seq (.ops [⟨0, (some 22), none, .mov (.t 7), []⟩, ⟨1, (some 23), none, .len (.t 22), []⟩, ⟨2, (some 24), none, .mov (.t 1), []⟩, ⟨3, (some 25), none, .bin .gtr (.t 23) (.t 24), []⟩]) (.ite (.t 25) .skip (.exit 2))) (.block 3 (.seq (.ops [⟨0, (some 9), none, .mov (.c (.int .i64 0)), []⟩]) (.seq (.seq (.ops [⟨0, (some 26), none, .mov (.t 2), []⟩, ⟨1, (some 27), none, .len (.t 26), []⟩, ⟨2, (some 28), none, .bin .gtr (.t 27) (.c (.int .i64 0)), []⟩]) (.ite (.t 28) (.seq (.ops [⟨0, (some 29), none, .mov (.t 2), []⟩, ⟨1, (some 30), none, .ixs 1 (.t 29) (.c (.int .i64 0)), []⟩, ⟨2, (some 31), none, .ld (.t 30), []⟩, ⟨3, (some 32), none, .cnv .u64 (.t 31), []⟩, ⟨4, (some 33), none, .mov (.t 7), []⟩, ⟨5, (some 34), none, .len (.t 33), []⟩, ⟨6, (some 35), none, .cnv .u64 (.t 34), []⟩, ⟨7, (some 36), none, .bin .rem (.t 32) (.t 35), []⟩, ⟨8, (some 37), none, .cnv .i64 (.t 36), []⟩, ⟨9, (some 9), none, .mov (.t 37), []⟩]) (.ops [⟨0, (some 38), none, .mov (.t 2), []⟩, ⟨1, (some 39), none, .slc 1 (.t 38) (some (.c (.int .i64 1))) none none, []⟩, ⟨2, (some 2), none, .mov (.t 39), []⟩])) .skip)) (.dops [⟨0, (some 40), none, .mov (.t 7), []⟩, ⟨1, (some 41), none, .mov (.t 9), []⟩, ⟨2, (some 42), none, .slc 1 (.t 40) none (some (.t 41)) none, []⟩, ⟨3, (some 43), none, .mov (.t 7), []⟩, ⟨4, (some 44), none, .mov (.t 9), []⟩, ⟨5, (some 45), none, .bin .add (.t 44) (.c (.int .i64 1)), []⟩, ⟨6, (some 46), none, .slc 1 (.t 43) (some (.t 45)) none none, []⟩, ⟨7, (some 47), none, .app 3 8 [.int .i64 0] (.t 42) (.t 46), []⟩, ⟨8, (some 7), none, .mov (.t 47), []⟩]))))))) (.seq (.ops [⟨0, (some 48), none, .mov (.t 7), []⟩, ⟨1, (some 6), none, .mov (.t 48), []⟩]) .ret))))
attribute [irreducible] c_cullettop_chosen
theorem run_cullettop_chosen {args : List Value} {w : World} {K : Value → World → Prop} (hn : args.length ≤ 49) (h : WP Try.prog c_cullettop_chosen (endQ [.t 6] K) (initT args) w) : CallV Try.prog 41 args w K :=
  call_of follows Try.func41 (by kernel_rfl) (by kernel_rfl) hn h
end Go.Proofs.Ytbaljbadlfopgaa.Fw
namespace Go.Proofs.Ytbaljbadlfopgaa.Fw
open Go Go.Fw
theorem u64_nn (p : Int) : ∃ q : Nat, IntKind.u64.wrap p = (q : Int) := by
  refine ⟨(IntKind.u64.wrap p).toNat, ?_⟩
  rw [Int.toNat_of_nonneg]
  exact Int.emod_nonneg _ (by decide)
theorem iN_app (l m : List Nat) : iN l ++ iN m = iN (l ++ m) := (List.map_append ..).symm
theorem iN_take (l : List Nat) (k : Nat) : (iN l).take k = iN (l.take k) := List.map_take.symm
theorem iN_drop (l : List Nat) (k : Nat) : (iN l).drop k = iN (l.drop k) := List.map_drop.symm
theorem cullettop_chosen_spec (w : World) (n k : Nat) (s : Value) (P : List Int) (hs : Sl w s P) (hn : n ≤ 1024) (hk : k ≤ n) (hP : P.length ≤ 70368744175616) :
    CallV Try.prog 41 [.int .i64 (n : Int), .int .i64 (k : Int), s] w fun v w' => ∃ l : List Nat, Ow w.heap.size w' v (iN l) ∧ l.length = k ∧ l.Pairwise (· < ·) ∧ (∀ e ∈ l, e < n) ∧ RowKit.Below w.heap.size w w' := by
  refine run_cullettop_chosen (by simp) ?_
  simp only [c_cullettop_chosen, WS, List.getElem_cons_zero, List.getElem_cons_succ, Option.isNone_some, Option.isNone_none, List.getD_cons_zero, List.getD_cons_succ, I.at, atL, atO, atP, evp, evs, retV, ↓reduceIte, Nat.reduceEqDiff, reduceCtorEq]
  refine X_mks (x := (0 : Int)) (n := n) (by simp only [maxBytes]; omega) (by omega) fun s7 w1 o7 hB => ?_
  have B := hB
  clear hB
  simp (maxSteps := 1000000) (disch := omega) only [WS, List.getElem_cons_zero, List.getElem_cons_succ, Option.isNone_some, Option.isNone_none, List.getD_cons_zero, List.getD_cons_succ, I.at, atL, atO, atP, evp, evs, retV, ↓reduceIte, Nat.reduceEqDiff, reduceCtorEq, AS, o7.sl.Xlen, List.length_replicate]
  refine loop_of (fun t w' => t 1 = .int .i64 (k : Int) ∧ t 2 = s ∧ t 7 = s7 ∧ t 13 = .int .i64 (n : Int) ∧ RowKit.Below w.heap.size w w' ∧ ∃ (i : Nat) (L : List Int), t 14 = .int .i64 (i : Int) ∧ i ≤ n ∧ Ow w.heap.size w' s7 L ∧ L.length = n ∧ ∀ j (hj : j < L.length), j < i → L[j] = (j : Int)) (fun t _ => n - (toI (t 14)).toNat)
    ⟨by simp only [WS, List.getElem_cons_zero, List.getElem_cons_succ, Option.isNone_some, Option.isNone_none, List.getD_cons_zero, List.getD_cons_succ, I.at, atL, atO, atP, evp, evs, retV, ↓reduceIte, Nat.reduceEqDiff, reduceCtorEq], by simp only [WS, List.getElem_cons_zero, List.getElem_cons_succ, Option.isNone_some, Option.isNone_none, List.getD_cons_zero, List.getD_cons_succ, I.at, atL, atO, atP, evp, evs, retV, ↓reduceIte, Nat.reduceEqDiff, reduceCtorEq], by simp only [WS, List.getElem_cons_zero, List.getElem_cons_succ, Option.isNone_some, Option.isNone_none, List.getD_cons_zero, List.getD_cons_succ, I.at, atL, atO, atP, evp, evs, retV, ↓reduceIte, Nat.reduceEqDiff, reduceCtorEq], by simp only [WS, List.getElem_cons_zero, List.getElem_cons_succ, Option.isNone_some, Option.isNone_none, List.getD_cons_zero, List.getD_cons_succ, I.at, atL, atO, atP, evp, evs, retV, ↓reduceIte, Nat.reduceEqDiff, reduceCtorEq], B, 0, _, by simp only [WS, List.getElem_cons_zero, List.getElem_cons_succ, Option.isNone_some, Option.isNone_none, List.getD_cons_zero, List.getD_cons_succ, I.at, atL, atO, atP, evp, evs, retV, ↓reduceIte, Nat.reduceEqDiff, reduceCtorEq]; rfl, by omega, o7, List.length_replicate .., fun j hj h => by omega⟩ ?_
  clear B o7
  rintro t w2 ⟨t1, t2, t7, t13, B, i, L, t14, hi, oL, hLl, hLv⟩
  by_cases hlt : i < n
  · have iL : i < L.length := by omega
    simp (maxSteps := 1000000) (disch := omega) only [WS, List.getElem_cons_zero, List.getElem_cons_succ, Option.isNone_some, Option.isNone_none, List.getD_cons_zero, List.getD_cons_succ, I.at, atL, atO, atP, evp, evs, retV, ↓reduceIte, Nat.reduceEqDiff, reduceCtorEq, AS, t1, t2, t7, t13, t14, oL.sl.Xix iL]
    rw [← cell_int]
    refine Ow.Xst oL iL (i : Int) fun w4 oL2 hg => ?_
    have B := B.grown hg B.size fun b hb => (oL.blk b hb).1
    simp (maxSteps := 1000000) (disch := omega) only [WS, List.getElem_cons_zero, List.getElem_cons_succ, Option.isNone_some, Option.isNone_none, List.getD_cons_zero, List.getD_cons_succ, I.at, atL, atO, atP, evp, evs, retV, ↓reduceIte, Nat.reduceEqDiff, reduceCtorEq, AS, t1, t2, t7, t13, t14]
    refine ⟨⟨B, i + 1, _, rfl, by omega, oL2, by rw [List.length_set]; exact hLl, fun j hj h => ?_⟩, by omega⟩
    rw [List.getElem_set]
    by_cases c : i = j
    · rw [if_pos c, c]
    · rw [if_neg c]; exact hLv j (by rw [List.length_set] at hj; exact hj) (by omega)
  have hL : L = iN (List.range n) := by
    refine List.ext_getElem (by rw [iN_len, List.length_range]; exact hLl) fun j h1 h2 => ?_
    rw [hLv j h1 (by omega), iN_get h2 (by rw [List.length_range]; omega), List.getElem_range]
  subst hL
  simp (maxSteps := 1000000) (disch := omega) only [WS, List.getElem_cons_zero, List.getElem_cons_succ, Option.isNone_some, Option.isNone_none, List.getD_cons_zero, List.getD_cons_succ, I.at, atL, atO, atP, evp, evs, retV, ↓reduceIte, Nat.reduceEqDiff, reduceCtorEq, AS, t1, t2, t7, t13, t14]
  refine loop_of (fun t w' => t 1 = .int .i64 (k : Int) ∧ RowKit.Below w.heap.size w w' ∧ ∃ (s2 s7 : Value) (P : List Int) (l : List Nat), t 2 = s2 ∧ Sl w s2 P ∧ t 7 = s7 ∧ Ow w.heap.size w' s7 (iN l) ∧ l.Pairwise (· < ·) ∧ (∀ e ∈ l, e < n) ∧ k ≤ l.length ∧ l.length ≤ n) (fun t _ => match t 7 with | .slice _ n _ => n | _ => 0)
    ⟨by simp only [WS, List.getElem_cons_zero, List.getElem_cons_succ, Option.isNone_some, Option.isNone_none, List.getD_cons_zero, List.getD_cons_succ, I.at, atL, atO, atP, evp, evs, retV, ↓reduceIte, Nat.reduceEqDiff, reduceCtorEq]; exact t1, B, s, s7, P, List.range n, by simp only [WS, List.getElem_cons_zero, List.getElem_cons_succ, Option.isNone_some, Option.isNone_none, List.getD_cons_zero, List.getD_cons_succ, I.at, atL, atO, atP, evp, evs, retV, ↓reduceIte, Nat.reduceEqDiff, reduceCtorEq]; exact t2, hs, by simp only [WS, List.getElem_cons_zero, List.getElem_cons_succ, Option.isNone_some, Option.isNone_none, List.getD_cons_zero, List.getD_cons_succ, I.at, atL, atO, atP, evp, evs, retV, ↓reduceIte, Nat.reduceEqDiff, reduceCtorEq]; exact t7, oL, List.pairwise_lt_range, fun e he => List.mem_range.1 he, by rw [List.length_range]; exact hk, by rw [List.length_range]; exact Nat.le_refl _⟩ ?_
  clear t1 t2 t7 t13 t14 B oL hLl hLv hlt hi i hs hP P s7
  rintro t w3 ⟨t1, B, s2, s7, P, l, t2, hs, t7, o7, hpw, hln, hkl, hlen⟩
  have hil := iN_len l
  by_cases hgo : k < l.length
  rotate_left
  · simp (maxSteps := 1000000) (disch := omega) only [WS, List.getElem_cons_zero, List.getElem_cons_succ, Option.isNone_some, Option.isNone_none, List.getD_cons_zero, List.getD_cons_succ, I.at, atL, atO, atP, evp, evs, retV, ↓reduceIte, Nat.reduceEqDiff, reduceCtorEq, AS, t1, t2, t7, o7.sl.Xlen, hil]
    exact ⟨l, o7, by omega, hpw, hln, B⟩
  have hs3 := hs.up B
  have hl0 : ((l.length : Nat) : Int) ≠ 0 := by omega
  have e1 : IntKind.u64.wrap ((l.length : Nat) : Int) = (l.length : Int) := wrap_u64 _ (by omega)
  simp (maxSteps := 1000000) (disch := omega) only [WS, List.getElem_cons_zero, List.getElem_cons_succ, Option.isNone_some, Option.isNone_none, List.getD_cons_zero, List.getD_cons_succ, I.at, atL, atO, atP, evp, evs, retV, ↓reduceIte, Nat.reduceEqDiff, reduceCtorEq, AS, t1, t2, t7, o7.sl.Xlen, hil, hs3.Xlen]
  refine iteW_cut (fun t w' => RowKit.Below w.heap.size w w' ∧ t 1 = .int .i64 (k : Int) ∧ t 7 = s7 ∧ Ow w.heap.size w' s7 (iN l) ∧ ∃ (s2 : Value) (P : List Int) (a : Nat), t 2 = s2 ∧ Sl w s2 P ∧ t 9 = .int .i64 (a : Int) ∧ a < l.length) ?_ fun t w4 h => ?_
  · by_cases hP : 0 < P.length
    · obtain ⟨q, hq⟩ := u64_nn P[0]
      have hm : q % l.length < l.length := Nat.mod_lt _ (by omega)
      have eP : ∀ (d : Option Nat) (l : List D) (Q : T → World → Prop) (t : T) (w' : World), XW Try.prog (.slc 1 (.c s2) (some (.c (.int .i64 1))) none none) d l Q t w' = W Try.prog Q l (put t d (Fw.sub s2 1 P.length)) w' := fun d l Q t w' => hs.XslcLo (k' := .i64) (lo := 1) (by omega) _ d l Q t w'
      have hs4 := hs.sub (lo := 1) (hi := P.length) (by omega) (Nat.le_refl _)
      simp (maxSteps := 1000000) (disch := omega) only [WS, List.getElem_cons_zero, List.getElem_cons_succ, Option.isNone_some, Option.isNone_none, List.getD_cons_zero, List.getD_cons_succ, I.at, atL, atO, atP, evp, evs, retV, ↓reduceIte, Nat.reduceEqDiff, reduceCtorEq, AS, t1, t2, t7, hs3.Xix0 hP, hs3.Xld hP, cell_int, hq, o7.sl.Xlen, hil, e1, X_rem, ne_eq, hl0, not_false_eq_true, tmod_nat, w_nat, eP]
      exact ⟨B, o7, _, _, _, rfl, hs4, rfl, hm⟩
    · simp (maxSteps := 1000000) (disch := omega) only [WS, List.getElem_cons_zero, List.getElem_cons_succ, Option.isNone_some, Option.isNone_none, List.getD_cons_zero, List.getD_cons_succ, I.at, atL, atO, atP, evp, evs, retV, ↓reduceIte, Nat.reduceEqDiff, reduceCtorEq, AS, t1, t2, t7]
      exact ⟨B, o7, _, P, 0, rfl, hs, rfl, by omega⟩
  have m7 := t7
  clear t1 t2 t7 hs hs3 P s2
  obtain ⟨B, t1, t7, o7, s2, P, a, t2, hs, t9, ha⟩ := h
  have ia : a < (iN l).length := by omega
  have o7d := o7.up (bel_drew w4)
  have s7d := o7d.sl
  have Bd := B.trans ((bel_drew w4).mono B.size)
  have ot := o7d.sub0 (k := a) (by omega)
  have st := s7d.sub (lo := a + 1) (hi := (iN l).length) (by omega) (Nat.le_refl _)
  rw [List.take_length] at st
  have elen : ((iN l).take a).length + ((iN l).drop (a + 1)).length = l.length - 1 := by rw [List.length_take, List.length_drop, hil]; omega
  simp (maxSteps := 1000000) (disch := omega) only [WS, List.getElem_cons_zero, List.getElem_cons_succ, Option.isNone_some, Option.isNone_none, List.getD_cons_zero, List.getD_cons_succ, I.at, atL, atO, atP, evp, evs, retV, ↓reduceIte, Nat.reduceEqDiff, reduceCtorEq, AS]
  refine WP_dops ?_
  simp (maxSteps := 1000000) (disch := omega) only [ES, List.mem_cons, List.not_mem_nil, implies_true, forall_const, WS, List.getElem_cons_zero, List.getElem_cons_succ, Option.isNone_some, Option.isNone_none, List.getD_cons_zero, List.getD_cons_succ, I.at, atL, atO, atP, evp, evs, retV, ↓reduceIte, Nat.reduceEqDiff, reduceCtorEq, AS, t1, t2, t7, t9, s7d.EslcHi (show a ≤ (iN l).length by omega), s7d.EslcLo (show a + 1 ≤ (iN l).length by omega)]
  refine Ow.Eapp ot st Bd.size (by rw [elen]; simp only [maxBytes]; omega) (by rw [elen]; omega) fun e1 w6 o8 hg hn => ?_
  have B8 := Below.app Bd Bd.size hg fun b hb => (ot.blk b hb).1
  have he : (iN l).take a ++ (iN l).drop (a + 1) = iN (l.eraseIdx a) := by rw [iN_take, iN_drop, iN_app, List.eraseIdx_eq_take_drop_succ]
  rw [he] at o8
  have hel : (l.eraseIdx a).length = l.length - 1 := by rw [List.length_eraseIdx_of_lt ha]
  obtain ⟨a1, c1, f1, -, -⟩ := o7.sl.sh
  obtain ⟨a2, c2, f2, -, -⟩ := o8.sl.sh
  simp (maxSteps := 1000000) (disch := omega) only [ES, List.mem_cons, List.not_mem_nil, implies_true, forall_const, WS, List.getElem_cons_zero, List.getElem_cons_succ, Option.isNone_some, Option.isNone_none, List.getD_cons_zero, List.getD_cons_succ, I.at, atL, atO, atP, evp, evs, retV, ↓reduceIte, Nat.reduceEqDiff, reduceCtorEq, AS, t1, t2, t7, t9]
  refine ⟨⟨B8, s2, e1, P, l.eraseIdx a, rfl, hs, rfl, o8, hpw.sublist (List.eraseIdx_sublist ..), fun e he => hln e ((List.eraseIdx_sublist ..).mem he), by omega, by omega⟩, ?_⟩
  rw [f2, f1]
  show (iN (l.eraseIdx a)).length < (iN l).length
  rw [iN_len, iN_len, hel]
  omega
end Go.Proofs.Ytbaljbadlfopgaa.Fw
