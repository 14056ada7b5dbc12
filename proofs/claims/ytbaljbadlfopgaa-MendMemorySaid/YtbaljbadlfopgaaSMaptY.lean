import Derived.Test.YtbaljbadlfopgaaProg
import Derived.Test.YtbaljbadlfopgaaFwTY
import Derived.Test.YtbaljbadlfopgaaSMtellsY
import Derived.Test.YtbaljbadlfopgaaFwSgY
import Derived.Test.YtbaljbadlfopgaaGfWY
set_option linter.all false
set_option linter.unusedVariables false
set_option linter.unusedSimpArgs false
set_option maxRecDepth 100000
set_option maxHeartbeats 1000000
namespace Go.Proofs.Ytbaljbadlfopgaa.Fw
open Go Go.Fw Go.Proofs
attribute [local irreducible] stepI
def c_culletlaw19_made : C := .seq (.ops [⟨0, (some 1), none, .box 61 (.t 0), []⟩, ⟨1, (some 2), none, .mov (.c (.slice none 0 0)), []⟩]) (.seq (.ops [⟨0, (some 9), none, .fad 1 (.t 1), []⟩, ⟨1, (some 10), none, .ld (.t 9), []⟩, ⟨2, (some 11), none, .fad 2 (.t 1), []⟩, ⟨3, (some 12), none, .ld (.t 11), []⟩, ⟨4, (some 13), none, .bin .add (.t 10) (.t 12), []⟩, ⟨5, (some 14), none, .mks 25 24 [.slice none 0 0] (.t 13) (.t 13), []⟩, ⟨6, (some 3), none, .mov (.t 14), []⟩]) (.seq (.seq (.ops [⟨0, (some 4), none, .mov (.c (.int .i64 0)), []⟩]) (.block 0 (.loop (.seq (.seq (.ops [⟨0, (some 15), none, .mov (.t 4), []⟩, ⟨1, (some 16), none, .mov (.t 3), []⟩, ⟨2, (some 17), none, .len (.t 16), []⟩, ⟨3, (some 18), none, .bin .lss (.t 15) (.t 17), []⟩]) (.ite (.t 18) .skip (.exit 0))) (.seq (.block 1 (.ops [⟨0, (some 21), none, .mov (.t 3), []⟩, ⟨1, (some 22), none, .mov (.t 4), []⟩, ⟨2, (some 23), none, .fad 3 (.t 1), []⟩, ⟨3, (some 24), none, .ld (.t 23), []⟩, ⟨4, (some 25), none, .len (.t 24), []⟩, ⟨5, (some 26), none, .mks 5 1 [.int .u8 0] (.t 25) (.t 25), []⟩, ⟨6, (some 27), none, .ixs 1 (.t 21) (.t 22), []⟩, ⟨7, none, none, .st (.t 27) (.t 26), []⟩])) (.ops [⟨0, (some 19), none, .mov (.t 4), []⟩, ⟨1, (some 20), none, .bin .add (.t 19) (.c (.int .i64 1)), []⟩, ⟨2, (some 4), none, .mov (.t 20), []⟩])))))) (.seq (.seq (.ops [⟨0, (some 5), none, .mov (.c (.int .i64 0)), []⟩]) (.block 2 (.loop (.seq (.seq (.ops [⟨0, (some 28), none, .mov (.t 5), []⟩, ⟨1, (some 29), none, .fad 3 (.t 1), []⟩, ⟨2, (some 30), none, .ld (.t 29), []⟩, ⟨3, (some 31), none, .len (.t 30), []⟩, ⟨4, (some 32), none, .bin .lss (.t 28) (.t 31), []⟩]) (.ite (.t 32) .skip (.exit 2))) (.seq (.block 3 (.seq (.ops [⟨0, (some 35), none, .fad 1 (.t 1), []⟩, ⟨1, (some 36), none, .ld (.t 35), []⟩, ⟨2, (some 37), none, .mks 5 1 [.int .u8 0] (.t 36) (.t 36), []⟩, ⟨3, (some 6), none, .mov (.t 37), []⟩]) (.seq (.ops [⟨0, (some 38), none, .mov (.t 6), []⟩, ⟨1, (some 39), none, .fad 3 (.t 1), []⟩, ⟨2, (some 40), none, .ld (.t 39), []⟩, ⟨3, (some 41), none, .mov (.t 5), []⟩, ⟨4, (some 42), none, .ixs 1 (.t 40) (.t 41), []⟩, ⟨5, (some 43), none, .ld (.t 42), []⟩, ⟨6, (some 44), none, .cpy 1 (.t 38) (.t 43), []⟩]) (.seq (.ops [⟨0, (some 45), none, .fad 0 (.t 1), []⟩, ⟨1, (some 46), none, .ld (.t 45), []⟩, ⟨2, (some 47), none, .fad 1 (.t 1), []⟩, ⟨3, (some 48), none, .ld (.t 47), []⟩, ⟨4, (some 49), none, .fad 2 (.t 1), []⟩, ⟨5, (some 50), none, .ld (.t 49), []⟩, ⟨6, (some 51), none, .mov (.t 6), []⟩, ⟨7, (some 52), none, .call (.c (.func (.func 64) #[] #[])) [.t 46, .t 48, .t 50, .t 51], []⟩, ⟨8, (some 7), none, .mov (.t 52), []⟩]) (.seq (.ops [⟨0, (some 8), none, .mov (.c (.int .i64 0)), []⟩]) (.block 4 (.loop (.seq (.seq (.ops [⟨0, (some 53), none, .mov (.t 8), []⟩, ⟨1, (some 54), none, .mov (.t 3), []⟩, ⟨2, (some 55), none, .len (.t 54), []⟩, ⟨3, (some 56), none, .bin .lss (.t 53) (.t 55), []⟩]) (.ite (.t 56) .skip (.exit 4))) (.seq (.block 5 (.dops [⟨0, (some 59), none, .mov (.t 3), []⟩, ⟨1, (some 60), none, .mov (.t 8), []⟩, ⟨2, (some 61), none, .ixs 1 (.t 59) (.t 60), []⟩, ⟨3, (some 62), none, .ld (.t 61), []⟩, ⟨4, (some 63), none, .mov (.t 5), []⟩, ⟨5, (some 64), none, .mov (.t 7), []⟩, ⟨6, (some 65), none, .mov (.t 8), []⟩, ⟨7, (some 66), none, .ixs 1 (.t 64) (.t 65), []⟩, ⟨8, (some 67), none, .ld (.t 66), []⟩, ⟨9, (some 68), none, .ixs 1 (.t 62) (.t 63), []⟩, ⟨10, none, none, .st (.t 68) (.t 67), []⟩])) (.ops [⟨0, (some 57), none, .mov (.t 8), []⟩, ⟨1, (some 58), none, .bin .add (.t 57) (.c (.int .i64 1)), []⟩, ⟨2, (some 8), none, .mov (.t 58), []⟩])))))))))) (.ops [⟨0, (some 33), none, .mov (.t 5), []⟩, ⟨1, (some 34), none, .bin .add (.t 33) (.c (.int .i64 1)), []⟩, ⟨2, (some 5), none, .mov (.t 34), []⟩])))))) (.seq (.ops [⟨0, (some 69), none, .mov (.t 3), []⟩, ⟨1, (some 2), none, .mov (.t 69), []⟩]) .ret))))
attribute [irreducible] c_culletlaw19_made
theorem run_culletlaw19_made {args : List Value} {w : World} {K : Value → World → Prop} (hn : args.length ≤ 70) (h : WP Try.prog c_culletlaw19_made (endQ [.t 2] K) (initT args) w) : CallV Try.prog 30 args w K :=
  call_of follows Try.func30 (by kernel_rfl) (by kernel_rfl) hn h
def c_culletlaw19_column : C := .seq (.ops [⟨0, (some 8), none, .mov (.c (.slice none 0 0)), []⟩]) (.seq (.ops [⟨0, (some 14), none, .mov (.t 1), []⟩, ⟨1, (some 15), none, .mov (.t 2), []⟩, ⟨2, (some 16), none, .bin .add (.t 14) (.t 15), []⟩, ⟨3, (some 17), none, .mks 5 1 [.int .u8 0] (.t 16) (.t 16), []⟩, ⟨4, (some 9), none, .mov (.t 17), []⟩]) (.seq (.seq (.ops [⟨0, (some 10), none, .mov (.c (.int .i64 0)), []⟩]) (.block 0 (.loop (.seq (.seq (.ops [⟨0, (some 18), none, .mov (.t 10), []⟩, ⟨1, (some 19), none, .mov (.t 1), []⟩, ⟨2, (some 20), none, .mov (.t 2), []⟩, ⟨3, (some 21), none, .bin .add (.t 19) (.t 20), []⟩, ⟨4, (some 22), none, .bin .lss (.t 18) (.t 21), []⟩]) (.ite (.t 22) .skip (.exit 0))) (.seq (.block 1 (.block 2 (.seq (.ops [⟨0, (some 52), none, .mov (.t 0), []⟩, ⟨1, (some 53), none, .bin .eql (.t 52) (.c (.int .i64 0)), []⟩, ⟨2, (some 51), none, .mov (.t 53), []⟩]) (.ite (.t 51) (.ops [⟨0, (some 54), none, .mov (.t 9), []⟩, ⟨1, (some 55), none, .mov (.t 10), []⟩, ⟨2, (some 56), none, .mov (.t 3), []⟩, ⟨3, (some 57), none, .mov (.t 10), []⟩, ⟨4, (some 58), none, .cnv .u8 (.t 57), []⟩, ⟨5, (some 59), none, .call (.c (.func (.func 15) #[] #[])) [.t 56, .t 58], []⟩, ⟨6, (some 60), none, .ixs 1 (.t 54) (.t 55), []⟩, ⟨7, none, none, .st (.t 60) (.t 59), []⟩]) (.seq (.ops [⟨0, (some 62), none, .mov (.t 10), []⟩, ⟨1, (some 63), none, .mov (.t 1), []⟩, ⟨2, (some 64), none, .bin .lss (.t 62) (.t 63), []⟩, ⟨3, (some 61), none, .mov (.t 64), []⟩]) (.ite (.t 61) (.ops [⟨0, (some 65), none, .mov (.t 9), []⟩, ⟨1, (some 66), none, .mov (.t 10), []⟩, ⟨2, (some 67), none, .mov (.t 3), []⟩, ⟨3, (some 68), none, .mov (.t 10), []⟩, ⟨4, (some 69), none, .ixs 1 (.t 67) (.t 68), []⟩, ⟨5, (some 70), none, .ld (.t 69), []⟩, ⟨6, (some 71), none, .ixs 1 (.t 65) (.t 66), []⟩, ⟨7, none, none, .st (.t 71) (.t 70), []⟩]) (.seq (.ops [⟨0, (some 11), none, .mov (.c (.int .i64 0)), []⟩]) (.block 3 (.loop (.seq (.seq (.ops [⟨0, (some 25), none, .mov (.t 11), []⟩, ⟨1, (some 26), none, .mov (.t 1), []⟩, ⟨2, (some 27), none, .bin .lss (.t 25) (.t 26), []⟩]) (.ite (.t 27) .skip (.exit 3))) (.seq (.block 4 (.seq (.ops [⟨0, (some 31), none, .mov (.t 3), []⟩, ⟨1, (some 32), none, .mov (.t 11), []⟩, ⟨2, (some 33), none, .ixs 1 (.t 31) (.t 32), []⟩, ⟨3, (some 34), none, .ld (.t 33), []⟩, ⟨4, (some 35), none, .mov (.t 10), []⟩, ⟨5, (some 36), none, .mov (.t 11), []⟩, ⟨6, (some 37), none, .bin .xor (.t 35) (.t 36), []⟩, ⟨7, (some 38), none, .cnv .u8 (.t 37), []⟩, ⟨8, (some 39), none, .call (.c (.func (.func 61) #[] #[])) [.t 34, .t 38], []⟩, ⟨9, (some 30), none, .mov (.t 39), []⟩, ⟨10, (some 40), none, .ext (.t 30) 0, []⟩, ⟨11, (some 41), none, .ext (.t 30) 1, []⟩, ⟨12, (some 12), none, .mov (.t 40), []⟩, ⟨13, (some 13), none, .mov (.t 41), []⟩]) (.ops [⟨0, (some 42), none, .mov (.t 9), []⟩, ⟨1, (some 43), none, .mov (.t 10), []⟩, ⟨2, (some 44), none, .mov (.t 9), []⟩, ⟨3, (some 45), none, .mov (.t 10), []⟩, ⟨4, (some 46), none, .ixs 1 (.t 44) (.t 45), []⟩, ⟨5, (some 47), none, .ld (.t 46), []⟩, ⟨6, (some 48), none, .mov (.t 12), []⟩, ⟨7, (some 49), none, .bin .xor (.t 47) (.t 48), []⟩, ⟨8, (some 50), none, .ixs 1 (.t 42) (.t 43), []⟩, ⟨9, none, none, .st (.t 50) (.t 49), []⟩]))) (.ops [⟨0, (some 28), none, .mov (.t 11), []⟩, ⟨1, (some 29), none, .bin .add (.t 28) (.c (.int .i64 1)), []⟩, ⟨2, (some 11), none, .mov (.t 29), []⟩])))))))))))) (.ops [⟨0, (some 23), none, .mov (.t 10), []⟩, ⟨1, (some 24), none, .bin .add (.t 23) (.c (.int .i64 1)), []⟩, ⟨2, (some 10), none, .mov (.t 24), []⟩])))))) (.seq (.ops [⟨0, (some 72), none, .mov (.t 9), []⟩, ⟨1, (some 8), none, .mov (.t 72), []⟩]) .ret)))
attribute [irreducible] c_culletlaw19_column
theorem run_culletlaw19_column {args : List Value} {w : World} {K : Value → World → Prop} (hn : args.length ≤ 73) (h : WP Try.prog c_culletlaw19_column (endQ [.t 8] K) (initT args) w) : CallV Try.prog 64 args w K :=
  call_of follows Try.func64 (by kernel_rfl) (by kernel_rfl) hn h
end Go.Proofs.Ytbaljbadlfopgaa.Fw
namespace Go.Proofs.Ytbaljbadlfopgaa.Fw
open Go Go.Fw
/-- A codeword's column, made out of k bytes. -/
def colF (f : Int) (K : Nat) (seed : List (El 8)) (j : Nat) : El 8 := if f = 0 then evl seed (en8 j) else if j < K then nth seed j else gsum K fun l => nth seed l * (en8 j + en8 l).inv
theorem colF_val {f : Int} {K n : Nat} (hf : f = 0 ∨ f = 1) (hn : n ≤ 256) (hK : K ≤ n) {seed : List (El 8)} (hs : seed.length = K) : ∃ g, tr g = g ∧ g.length ≤ K ∧ ∀ j, j < n → colF f K seed j = valS f K g j := by
  rcases hf with rfl | rfl
  · refine ⟨tr seed, tr_tr _, by rw [tr_len, ← hs]; exact tln_le _, fun j hj => ?_⟩
    unfold colF valS wt
    rw [if_pos rfl, if_neg (by decide), inv_one8, El.mul_one, evl_eq _ (tr_co seed)]
  · obtain ⟨Y, hY⟩ : ∃ Y : Nat → El 8, Y = fun l => nth seed l * wpr l K := ⟨_, rfl⟩
    have hd : Dg (nw en8 Y 0 K) K := nw_dg en8 Y 0 K
    have hgl : (tr (ofc K (nw en8 Y 0 K))).length ≤ K := by
      rw [tr_len]; have := tln_le (ofc K (nw en8 Y 0 K)); rwa [ofc_len] at this
    have hgv : ∀ l, l < K → evl (tr (ofc K (nw en8 Y 0 K))) (en8 l) = Y l := fun l hl => by
      have := nw_ev en8 Y K (en8_dist (by omega)) K 0 (by omega) l hl
      rw [Nat.zero_add] at this
      rw [evl_eq _ (tr_co _), evl_co, ofc_len, ofc_co hd]
      exact this
    have hlow : ∀ l, l < K → valS 1 K (tr (ofc K (nw en8 Y 0 K))) l = nth seed l := fun l hl => by
      unfold valS wt
      rw [if_pos rfl, hgv l hl, hY, El.mul_assoc, El.mul_inv _ (wpr_ne (by omega) K (by omega)), El.mul_one]
    refine ⟨tr (ofc K (nw en8 Y 0 K)), tr_tr _, hgl, fun j hj => ?_⟩
    unfold colF
    rw [if_neg (by decide)]
    by_cases hjk : j < K
    · rw [if_pos hjk, hlow j hjk]
    · rw [if_neg hjk]
      have := isCol_val (f := 1) (K := K) (n := n) (Or.inr rfl) hn hK hgl j (by omega) hj
      rw [← this]
      refine gsum_congr fun l hl => ?_
      unfold ctm
      rw [if_neg (by decide), hlow l hl]
theorem culletlaw19_column_spec (w : World) (f : Int) (K M : Nat) (s : Value) (seed : List (El 8)) (h : Sl w s seed) (hf : f = 0 ∨ f = 1) (hk : 1 ≤ K) (hkm : K + M ≤ 256) (hs : seed.length = K) :
    CallV Try.prog 64 [.int .i64 f, .int .i64 (K : Int), .int .i64 (M : Int), s] w fun v w' => RowKit.Below w.heap.size w w' ∧ Ow w.heap.size w' v ((List.range (K + M)).map (colF f K seed)) := by
  have eKM : IntKind.i64.wrap ((K : Int) + (M : Int)) = ((K + M : Nat) : Int) := by rw [wrap_id (by omega) (by omega)]; omega
  refine run_culletlaw19_column (by simp) ?_
  simp only [c_culletlaw19_column, WS, List.getElem_cons_zero, List.getElem_cons_succ, Option.isNone_some, Option.isNone_none, List.getD_cons_zero, List.getD_cons_succ, I.at, atL, atO, atP, evp, evs, retV, ↓reduceIte, Nat.reduceEqDiff, reduceCtorEq, eKM]
  refine X_mks (x := (0 : El 8)) (n := K + M) (by simp only [maxBytes]; omega) (by omega) fun sc w1 oc hB => ?_
  simp (maxSteps := 1000000) (disch := omega) only [WS, List.getElem_cons_zero, List.getElem_cons_succ, Option.isNone_some, Option.isNone_none, List.getD_cons_zero, List.getD_cons_succ, I.at, atL, atO, atP, evp, evs, retV, ↓reduceIte, Nat.reduceEqDiff, reduceCtorEq, AS]
  refine loop_of (fun t w' => t 0 = .int .i64 f ∧ t 1 = .int .i64 (K : Int) ∧ t 2 = .int .i64 (M : Int) ∧ t 3 = s ∧ t 9 = sc ∧ RowKit.Below w.heap.size w w' ∧ ∃ (i : Nat) (cL : List (El 8)), t 10 = .int .i64 (i : Int) ∧ i ≤ K + M ∧ cL.length = K + M ∧ (∀ j, j < i → nth cL j = colF f K seed j) ∧ (∀ j, i ≤ j → nth cL j = 0) ∧ Ow w.heap.size w' sc cL) (fun t _ => K + M - (toI (t 10)).toNat)
    ⟨by simp only [WS, List.getElem_cons_zero, List.getElem_cons_succ, Option.isNone_some, Option.isNone_none, List.getD_cons_zero, List.getD_cons_succ, I.at, atL, atO, atP, evp, evs, retV, ↓reduceIte, Nat.reduceEqDiff, reduceCtorEq], by simp only [WS, List.getElem_cons_zero, List.getElem_cons_succ, Option.isNone_some, Option.isNone_none, List.getD_cons_zero, List.getD_cons_succ, I.at, atL, atO, atP, evp, evs, retV, ↓reduceIte, Nat.reduceEqDiff, reduceCtorEq], by simp only [WS, List.getElem_cons_zero, List.getElem_cons_succ, Option.isNone_some, Option.isNone_none, List.getD_cons_zero, List.getD_cons_succ, I.at, atL, atO, atP, evp, evs, retV, ↓reduceIte, Nat.reduceEqDiff, reduceCtorEq], by simp only [WS, List.getElem_cons_zero, List.getElem_cons_succ, Option.isNone_some, Option.isNone_none, List.getD_cons_zero, List.getD_cons_succ, I.at, atL, atO, atP, evp, evs, retV, ↓reduceIte, Nat.reduceEqDiff, reduceCtorEq], by simp only [WS, List.getElem_cons_zero, List.getElem_cons_succ, Option.isNone_some, Option.isNone_none, List.getD_cons_zero, List.getD_cons_succ, I.at, atL, atO, atP, evp, evs, retV, ↓reduceIte, Nat.reduceEqDiff, reduceCtorEq], hB, 0, _, by simp only [WS, List.getElem_cons_zero, List.getElem_cons_succ, Option.isNone_some, Option.isNone_none, List.getD_cons_zero, List.getD_cons_succ, I.at, atL, atO, atP, evp, evs, retV, ↓reduceIte, Nat.reduceEqDiff, reduceCtorEq]; rfl, by omega, List.length_replicate .., fun j hj => absurd hj (Nat.not_lt_zero _), fun j _ => nth_rep _ _, oc⟩ ?_
  clear oc hB
  rintro t w2 ⟨t0, t1, t2, t3, t9, B, i, cL, t10, hi, lc, hcL, hc0, oc⟩
  by_cases hin : i < K + M
  rotate_left
  · obtain rfl : i = K + M := by omega
    simp (maxSteps := 1000000) (disch := omega) only [WS, List.getElem_cons_zero, List.getElem_cons_succ, Option.isNone_some, Option.isNone_none, List.getD_cons_zero, List.getD_cons_succ, I.at, atL, atO, atP, evp, evs, retV, ↓reduceIte, Nat.reduceEqDiff, reduceCtorEq, AS, t0, t1, t2, t3, t9, t10, eKM]
    have : cL = (List.range (K + M)).map (colF f K seed) := List.ext_getElem (by rw [lc, List.length_map, List.length_range]) fun j a1 a2 => by
      have := hcL j (by omega)
      rw [nth_get a1] at this
      rw [this, List.getElem_map, List.getElem_range]
    rw [← this]
    exact ⟨B, oc⟩
  have ic : i < cL.length := by omega
  have h2 := h.up B
  have hfin : ∀ x, x = colF f K seed i → (∀ j, j < i + 1 → nth (cL.set i x) j = colF f K seed j) ∧ (∀ j, i + 1 ≤ j → nth (cL.set i x) j = 0) := fun x hx => by
    refine ⟨fun j hj => ?_, fun j hj => ?_⟩
    · rw [nth_set ic]
      split
      · rename_i e; rw [e, hx]
      · exact hcL j (by omega)
    · rw [nth_set ic, if_neg (by omega)]
      exact hc0 j (by omega)
  by_cases hf0 : f = 0
  · have u1 : IntKind.u8.wrap (i : Int) = ((en8 i).v.toNat : Int) := by rw [wrap_u8 _ (by omega), en8_v (by omega)]
    have ev : evl seed (en8 i) = colF f K seed i := by unfold colF; rw [if_pos hf0]
    simp (maxSteps := 1000000) (disch := omega) only [WS, List.getElem_cons_zero, List.getElem_cons_succ, Option.isNone_some, Option.isNone_none, List.getD_cons_zero, List.getD_cons_succ, I.at, atL, atO, atP, evp, evs, retV, ↓reduceIte, Nat.reduceEqDiff, reduceCtorEq, AS, t0, t1, t2, t3, t9, t10, eKM, u1]
    refine X_call0 ((culletlaw19_horner_spec w2 s seed (en8 i) h2 (by omega)).mono ?_)
    rintro _ w3 ⟨rfl, hB⟩
    have B := B.trans (hB.mono B.size)
    have oc := oc.up hB
    clear hB
    simp (maxSteps := 1000000) (disch := omega) only [WS, List.getElem_cons_zero, List.getElem_cons_succ, Option.isNone_some, Option.isNone_none, List.getD_cons_zero, List.getD_cons_succ, I.at, atL, atO, atP, evp, evs, retV, ↓reduceIte, Nat.reduceEqDiff, reduceCtorEq, AS, t0, t1, t2, t3, t9, t10, oc.sl.Xix ic]
    refine Ow.Xst oc ic (evl seed (en8 i)) fun w4 oc2 hg => ?_
    have B := Below.app B B.size hg fun b hb => (oc.blk b hb).1
    simp (maxSteps := 1000000) (disch := omega) only [WS, List.getElem_cons_zero, List.getElem_cons_succ, Option.isNone_some, Option.isNone_none, List.getD_cons_zero, List.getD_cons_succ, I.at, atL, atO, atP, evp, evs, retV, ↓reduceIte, Nat.reduceEqDiff, reduceCtorEq, AS, t0, t1, t2, t3, t9, t10]
    exact ⟨⟨B, i + 1, _, rfl, by omega, by rw [List.length_set]; exact lc, (hfin _ ev).1, (hfin _ ev).2, oc2⟩, by omega⟩
  by_cases hik : i < K
  · have is : i < seed.length := by omega
    have ev : seed[i] = colF f K seed i := by unfold colF; rw [if_neg hf0, if_pos hik, nth_get is]
    simp (maxSteps := 1000000) (disch := omega) only [WS, List.getElem_cons_zero, List.getElem_cons_succ, Option.isNone_some, Option.isNone_none, List.getD_cons_zero, List.getD_cons_succ, I.at, atL, atO, atP, evp, evs, retV, ↓reduceIte, Nat.reduceEqDiff, reduceCtorEq, AS, t0, t1, t2, t3, t9, t10, eKM, h2.Xix is, h2.Xld is, cell_e8, oc.sl.Xix ic]
    refine Ow.Xst oc ic seed[i] fun w4 oc2 hg => ?_
    have B := Below.app B B.size hg fun b hb => (oc.blk b hb).1
    simp (maxSteps := 1000000) (disch := omega) only [WS, List.getElem_cons_zero, List.getElem_cons_succ, Option.isNone_some, Option.isNone_none, List.getD_cons_zero, List.getD_cons_succ, I.at, atL, atO, atP, evp, evs, retV, ↓reduceIte, Nat.reduceEqDiff, reduceCtorEq, AS, t0, t1, t2, t3, t9, t10]
    exact ⟨⟨B, i + 1, _, rfl, by omega, by rw [List.length_set]; exact lc, (hfin _ ev).1, (hfin _ ev).2, oc2⟩, by omega⟩
  simp (maxSteps := 1000000) (disch := omega) only [WS, List.getElem_cons_zero, List.getElem_cons_succ, Option.isNone_some, Option.isNone_none, List.getD_cons_zero, List.getD_cons_succ, I.at, atL, atO, atP, evp, evs, retV, ↓reduceIte, Nat.reduceEqDiff, reduceCtorEq, AS, t0, t1, t2, t3, t9, t10, eKM]
  refine loop_of (fun t w' => t 0 = .int .i64 f ∧ t 1 = .int .i64 (K : Int) ∧ t 2 = .int .i64 (M : Int) ∧ t 3 = s ∧ t 9 = sc ∧ t 10 = .int .i64 (i : Int) ∧ RowKit.Below w.heap.size w w' ∧ ∃ l : Nat, t 11 = .int .i64 (l : Int) ∧ l ≤ K ∧ Ow w.heap.size w' sc (cL.set i (gsum l fun l => nth seed l * (en8 i + en8 l).inv))) (fun t _ => K - (toI (t 11)).toNat)
    ⟨by simp only [WS, List.getElem_cons_zero, List.getElem_cons_succ, Option.isNone_some, Option.isNone_none, List.getD_cons_zero, List.getD_cons_succ, I.at, atL, atO, atP, evp, evs, retV, ↓reduceIte, Nat.reduceEqDiff, reduceCtorEq]; exact t0, by simp only [WS, List.getElem_cons_zero, List.getElem_cons_succ, Option.isNone_some, Option.isNone_none, List.getD_cons_zero, List.getD_cons_succ, I.at, atL, atO, atP, evp, evs, retV, ↓reduceIte, Nat.reduceEqDiff, reduceCtorEq]; exact t1, by simp only [WS, List.getElem_cons_zero, List.getElem_cons_succ, Option.isNone_some, Option.isNone_none, List.getD_cons_zero, List.getD_cons_succ, I.at, atL, atO, atP, evp, evs, retV, ↓reduceIte, Nat.reduceEqDiff, reduceCtorEq]; exact t2, by simp only [WS, List.getElem_cons_zero, List.getElem_cons_succ, Option.isNone_some, Option.isNone_none, List.getD_cons_zero, List.getD_cons_succ, I.at, atL, atO, atP, evp, evs, retV, ↓reduceIte, Nat.reduceEqDiff, reduceCtorEq]; exact t3, by simp only [WS, List.getElem_cons_zero, List.getElem_cons_succ, Option.isNone_some, Option.isNone_none, List.getD_cons_zero, List.getD_cons_succ, I.at, atL, atO, atP, evp, evs, retV, ↓reduceIte, Nat.reduceEqDiff, reduceCtorEq]; exact t9, by simp only [WS, List.getElem_cons_zero, List.getElem_cons_succ, Option.isNone_some, Option.isNone_none, List.getD_cons_zero, List.getD_cons_succ, I.at, atL, atO, atP, evp, evs, retV, ↓reduceIte, Nat.reduceEqDiff, reduceCtorEq]; exact t10, B, 0, by simp only [WS, List.getElem_cons_zero, List.getElem_cons_succ, Option.isNone_some, Option.isNone_none, List.getD_cons_zero, List.getD_cons_succ, I.at, atL, atO, atP, evp, evs, retV, ↓reduceIte, Nat.reduceEqDiff, reduceCtorEq]; rfl, by omega, ?_⟩ ?_
  · have e1 : (gsum 0 fun l => nth seed l * (en8 i + en8 l).inv) = cL[i] := by
      have := hc0 i (Nat.le_refl _)
      rw [nth_get ic] at this
      rw [this]; rfl
    rw [e1, List.set_getElem_self]
    exact oc
  clear t0 t1 t2 t3 t9 t10 oc B h2
  rintro t w3 ⟨t0, t1, t2, t3, t9, t10, B, l, t11, hl, oc⟩
  by_cases hlk : l < K
  rotate_left
  · obtain rfl : l = K := by omega
    have ev : (gsum l fun l => nth seed l * (en8 i + en8 l).inv) = colF f l seed i := by unfold colF; rw [if_neg hf0, if_neg hik]
    simp (maxSteps := 1000000) (disch := omega) only [WS, List.getElem_cons_zero, List.getElem_cons_succ, Option.isNone_some, Option.isNone_none, List.getD_cons_zero, List.getD_cons_succ, I.at, atL, atO, atP, evp, evs, retV, ↓reduceIte, Nat.reduceEqDiff, reduceCtorEq, AS, t0, t1, t2, t3, t9, t10, t11]
    exact ⟨⟨B, i + 1, _, rfl, by omega, by rw [List.length_set]; exact lc, (hfin _ ev).1, (hfin _ ev).2, oc⟩, by omega⟩
  have h3 := h.up B
  have ls : l < seed.length := by omega
  have x1 := u8_xor (a := i) (b := l) (by omega) (by omega)
  have ic' : i < (cL.set i (gsum l fun l => nth seed l * (en8 i + en8 l).inv)).length := by rw [List.length_set]; exact ic
  have ec' : (cL.set i (gsum l fun l => nth seed l * (en8 i + en8 l).inv))[i] = gsum l fun l => nth seed l * (en8 i + en8 l).inv := List.getElem_set_self ..
  simp (maxSteps := 1000000) (disch := omega) only [WS, List.getElem_cons_zero, List.getElem_cons_succ, Option.isNone_some, Option.isNone_none, List.getD_cons_zero, List.getD_cons_succ, I.at, atL, atO, atP, evp, evs, retV, ↓reduceIte, Nat.reduceEqDiff, reduceCtorEq, AS, t0, t1, t2, t3, t9, t10, t11, h3.Xix ls, h3.Xld ls, cell_e8, x1]
  refine X_call0 ((gf8_Div_spec w3 seed[l] (en8 i + en8 l) (en8_ne (by omega) (by omega) (by omega))).mono ?_)
  rintro _ w4 ⟨rfl, rfl⟩
  simp (maxSteps := 1000000) (disch := omega) only [WS, List.getElem_cons_zero, List.getElem_cons_succ, Option.isNone_some, Option.isNone_none, List.getD_cons_zero, List.getD_cons_succ, I.at, atL, atO, atP, evp, evs, retV, ↓reduceIte, Nat.reduceEqDiff, reduceCtorEq, AS, t0, t1, t2, t3, t9, t10, t11, oc.sl.Xix ic', oc.sl.Xld ic', cell_e8, ec', xor8]
  refine Ow.Xst oc ic' ((gsum l fun l => nth seed l * (en8 i + en8 l).inv) + seed[l] * (en8 i + en8 l).inv) fun w5 oc2 hg => ?_
  have B := Below.app B B.size hg fun b hb => (oc.blk b hb).1
  simp (maxSteps := 1000000) (disch := omega) only [WS, List.getElem_cons_zero, List.getElem_cons_succ, Option.isNone_some, Option.isNone_none, List.getD_cons_zero, List.getD_cons_succ, I.at, atL, atO, atP, evp, evs, retV, ↓reduceIte, Nat.reduceEqDiff, reduceCtorEq, AS, t0, t1, t2, t3, t9, t10, t11]
  refine ⟨⟨B, l + 1, rfl, by omega, ?_⟩, by omega⟩
  rw [List.set_set, ← nth_get ls] at oc2
  exact oc2
theorem ne_of_len {l : List (El 8)} {n : Nat} (h : l.length = n) (hn : 0 < n) : l ≠ [] := fun e => by rw [e] at h; simp at h; omega
set_option maxHeartbeats 4000000 in
theorem culletlaw19_made_spec (w : World) (f : Int) (K M : Nat) (sd v4 v5 : Value) (hsd : List Hd) (RS : Nat → List (El 8)) (h : Sl w sd hsd) (hr : ∀ j (hj : j < hsd.length), Sl w (Cell.v hsd[j]) (RS j)) (hf : f = 0 ∨ f = 1) (hk : 1 ≤ K) (hm : 1 ≤ M) (hkm : K + M ≤ 256) (hT : 1 ≤ hsd.length) (hT2 : hsd.length ≤ 64) :
    CallV Try.prog 30 [.agg #[.int .i64 f, .int .i64 (K : Int), .int .i64 (M : Int), sd, v4, v5]] w fun v w' => RowKit.Below w.heap.size w w' ∧ ∃ (hs' : List Hd) (G : Nat → List (El 8)), hs'.length = K + M ∧ (∀ t, t < hsd.length → tr (G t) = G t ∧ (G t).length ≤ K) ∧ ShM w.heap.size (fun _ => True) (fun _ => []) v hs' (rowS f K G hsd.length) w' := by
  have eKM : IntKind.i64.wrap ((K : Int) + (M : Int)) = ((K + M : Nat) : Int) := by rw [wrap_id (by omega) (by omega)]; omega
  refine run_culletlaw19_made (by simp) ?_
  simp only [c_culletlaw19_made, WS, List.getElem_cons_zero, List.getElem_cons_succ, Option.isNone_some, Option.isNone_none, List.getD_cons_zero, List.getD_cons_succ, I.at, atL, atO, atP, evp, evs, retV, ↓reduceIte, Nat.reduceEqDiff, reduceCtorEq]
  refine X_box fun b w1 hrb hlb hB1 => ?_
  have hrb : Row w1 b [.int .i64 f, .int .i64 (K : Int), .int .i64 (M : Int), sd, v4, v5] := hrb
  have hr := fun j hj => (hr j hj).up hB1
  have h := h.up hB1
  simp (maxSteps := 1000000) (disch := omega) only [WS, List.getElem_cons_zero, List.getElem_cons_succ, Option.isNone_some, Option.isNone_none, List.getD_cons_zero, List.getD_cons_succ, I.at, atL, atO, atP, evp, evs, retV, ↓reduceIte, Nat.reduceEqDiff, reduceCtorEq, AS, hrb.Xld (show 1 < _ by simp), hrb.Xld (show 2 < _ by simp), eKM]
  refine X_mks (x := hdn) (n := K + M) (by simp only [maxBytes]; omega) (by omega) fun sv w2 ov hB => ?_
  simp (maxSteps := 1000000) (disch := omega) only [WS, List.getElem_cons_zero, List.getElem_cons_succ, Option.isNone_some, Option.isNone_none, List.getD_cons_zero, List.getD_cons_succ, I.at, atL, atO, atP, evp, evs, retV, ↓reduceIte, Nat.reduceEqDiff, reduceCtorEq, AS]
  refine loop_of (fun t w' => t 1 = .pointer (some ⟨b, 0, none⟩) ∧ t 3 = sv ∧ ∃ (i : Nat) (hs' : List Hd) (Rc : Nat → List (El 8)), t 4 = .int .i64 (i : Int) ∧ i ≤ K + M ∧ hs'.length = K + M ∧ (∀ j, j < K + M → Rc j = if j < i then List.replicate hsd.length 0 else []) ∧ ShM w1.heap.size (fun w' => RowKit.Below w1.heap.size w1 w') (fun _ => []) sv hs' Rc w') (fun t _ => K + M - (toI (t 4)).toNat)
    ⟨by simp only [WS, List.getElem_cons_zero, List.getElem_cons_succ, Option.isNone_some, Option.isNone_none, List.getD_cons_zero, List.getD_cons_succ, I.at, atL, atO, atP, evp, evs, retV, ↓reduceIte, Nat.reduceEqDiff, reduceCtorEq], by simp only [WS, List.getElem_cons_zero, List.getElem_cons_succ, Option.isNone_some, Option.isNone_none, List.getD_cons_zero, List.getD_cons_succ, I.at, atL, atO, atP, evp, evs, retV, ↓reduceIte, Nat.reduceEqDiff, reduceCtorEq], 0, _, _, by simp only [WS, List.getElem_cons_zero, List.getElem_cons_succ, Option.isNone_some, Option.isNone_none, List.getD_cons_zero, List.getD_cons_succ, I.at, atL, atO, atP, evp, evs, retV, ↓reduceIte, Nat.reduceEqDiff, reduceCtorEq]; rfl, by omega, List.length_replicate .., fun j hj => by rw [if_neg (by omega)], ShM.fresh ov hB⟩ ?_
  clear hB ov
  rintro t w3 ⟨t1, t3, i, hs1, Rc, t4, hi, lhs, hRc, hS⟩
  have E := hS.frm
  have h3 := h.up E
  have hrb3 := hrb.up E
  have lhs' : ((hs1.length : Nat) : Int) = ((K + M : Nat) : Int) := by rw [lhs]
  by_cases hil : i < K + M
  · simp (maxSteps := 1000000) (disch := omega) only [WS, List.getElem_cons_zero, List.getElem_cons_succ, Option.isNone_some, Option.isNone_none, List.getD_cons_zero, List.getD_cons_succ, I.at, atL, atO, atP, evp, evs, retV, ↓reduceIte, Nat.reduceEqDiff, reduceCtorEq, AS, t1, t3, t4, hS.top.sl.Xlen, lhs', hrb3.Xld (show 3 < _ by simp), h3.Xlen]
    refine X_mks (x := (0 : El 8)) (n := hsd.length) (by simp only [maxBytes]; omega) (by omega) fun sr w4 or hB => ?_
    have hS4 := hS.up (frmB w1) hB
    have iS : i < hs1.length := by omega
    have hcv : Cell.v (hd sr) = sr := or.sl.hd.1
    have hRci : Rc i = [] := by rw [hRc i hil, if_neg (by omega)]
    simp (maxSteps := 1000000) (disch := omega) only [WS, List.getElem_cons_zero, List.getElem_cons_succ, Option.isNone_some, Option.isNone_none, List.getD_cons_zero, List.getD_cons_succ, I.at, atL, atO, atP, evp, evs, retV, ↓reduceIte, Nat.reduceEqDiff, reduceCtorEq, AS, t1, t3, t4, hS4.top.sl.Xix iS]
    rw [← hcv]
    refine ShM.Xput (frmB w1) hS hS4 iS hRci rfl (fun b hb => (hS4.top.blk b hb).1) (hd sr) (ne_of_len (List.length_replicate ..) hT) (by rw [hcv]; exact or) E.size fun w5 b hS5 hg hb => ?_
    simp (maxSteps := 1000000) (disch := omega) only [WS, List.getElem_cons_zero, List.getElem_cons_succ, Option.isNone_some, Option.isNone_none, List.getD_cons_zero, List.getD_cons_succ, I.at, atL, atO, atP, evp, evs, retV, ↓reduceIte, Nat.reduceEqDiff, reduceCtorEq, AS, t1, t3, t4]
    refine ⟨⟨i + 1, _, _, rfl, by omega, by rw [List.length_set]; exact lhs, fun j hj => ?_, hS5⟩, by omega⟩
    by_cases e : j = i
    · subst e; simp only [if_true]; rw [if_pos (by omega)]
    · simp only [if_neg e]
      rw [hRc j hj]
      by_cases e2 : j < i
      · rw [if_pos e2, if_pos (by omega)]
      · rw [if_neg e2, if_neg (by omega)]
  obtain rfl : i = K + M := by omega
  simp (maxSteps := 1000000) (disch := omega) only [WS, List.getElem_cons_zero, List.getElem_cons_succ, Option.isNone_some, Option.isNone_none, List.getD_cons_zero, List.getD_cons_succ, I.at, atL, atO, atP, evp, evs, retV, ↓reduceIte, Nat.reduceEqDiff, reduceCtorEq, AS, t1, t3, t4, hS.top.sl.Xlen, lhs']
  refine loop_of (fun t w' => t 1 = .pointer (some ⟨b, 0, none⟩) ∧ t 3 = sv ∧ ∃ (x : Nat) (Rd G : Nat → List (El 8)), t 5 = .int .i64 (x : Int) ∧ x ≤ hsd.length ∧ (∀ j, j < K + M → (Rd j).length = hsd.length) ∧ (∀ j, j < K + M → ∀ y, y < x → nth (Rd j) y = valS f K (G y) j) ∧ (∀ y, y < x → tr (G y) = G y ∧ (G y).length ≤ K) ∧ ShM w1.heap.size (fun w' => RowKit.Below w1.heap.size w1 w') (fun _ => []) sv hs1 Rd w') (fun t _ => hsd.length - (toI (t 5)).toNat)
    ⟨by simp only [WS, List.getElem_cons_zero, List.getElem_cons_succ, Option.isNone_some, Option.isNone_none, List.getD_cons_zero, List.getD_cons_succ, I.at, atL, atO, atP, evp, evs, retV, ↓reduceIte, Nat.reduceEqDiff, reduceCtorEq]; exact t1, by simp only [WS, List.getElem_cons_zero, List.getElem_cons_succ, Option.isNone_some, Option.isNone_none, List.getD_cons_zero, List.getD_cons_succ, I.at, atL, atO, atP, evp, evs, retV, ↓reduceIte, Nat.reduceEqDiff, reduceCtorEq]; exact t3, 0, Rc, fun _ => [], by simp only [WS, List.getElem_cons_zero, List.getElem_cons_succ, Option.isNone_some, Option.isNone_none, List.getD_cons_zero, List.getD_cons_succ, I.at, atL, atO, atP, evp, evs, retV, ↓reduceIte, Nat.reduceEqDiff, reduceCtorEq]; rfl, by omega, fun j hj => by rw [hRc j hj, if_pos hj, List.length_replicate], fun j hj y hy => absurd hy (Nat.not_lt_zero _), fun y hy => absurd hy (Nat.not_lt_zero _), hS⟩ ?_
  clear t1 t3 t4 hS hRc E h3 hrb3
  rintro t w4 ⟨t1, t3, x, Rd, G, t5, hx, hRl, hRv, hG, hS⟩
  have E := hS.frm
  have h4 := h.up E
  have hrb4 := hrb.up E
  by_cases hxl : x < hsd.length
  rotate_left
  · obtain rfl : x = hsd.length := by omega
    simp (maxSteps := 1000000) (disch := omega) only [WS, List.getElem_cons_zero, List.getElem_cons_succ, Option.isNone_some, Option.isNone_none, List.getD_cons_zero, List.getD_cons_succ, I.at, atL, atO, atP, evp, evs, retV, ↓reduceIte, Nat.reduceEqDiff, reduceCtorEq, AS, t1, t3, t5, hrb4.Xld (show 3 < _ by simp), h4.Xlen]
    refine ⟨hB1.trans (E.mono hB1.size), hs1, G, lhs, hG, ((hS.frame trivial).mono hB1.size).congr fun j hj => ?_⟩
    exact ((rowS_eq (hRl j (by omega))).2 (hRv j (by omega))).symm
  simp (maxSteps := 1000000) (disch := omega) only [WS, List.getElem_cons_zero, List.getElem_cons_succ, Option.isNone_some, Option.isNone_none, List.getD_cons_zero, List.getD_cons_succ, I.at, atL, atO, atP, evp, evs, retV, ↓reduceIte, Nat.reduceEqDiff, reduceCtorEq, AS, t1, t3, t5, hrb4.Xld (show 3 < _ by simp), h4.Xlen, hrb4.Xld (show 1 < _ by simp)]
  refine X_mks (x := (0 : El 8)) (n := K) (by simp only [maxBytes]; omega) (by omega) fun sq w5 oq hB => ?_
  have E5 := E.trans (hB.mono E.size)
  have h5 := h.up E5
  have hrb5 := hrb.up E5
  have rx := (hr x hxl).up E5
  simp (maxSteps := 1000000) (disch := omega) only [WS, List.getElem_cons_zero, List.getElem_cons_succ, Option.isNone_some, Option.isNone_none, List.getD_cons_zero, List.getD_cons_succ, I.at, atL, atO, atP, evp, evs, retV, ↓reduceIte, Nat.reduceEqDiff, reduceCtorEq, AS, t1, t3, t5, hrb5.Xld (show 3 < _ by simp), h5.Xix hxl, h5.Xld hxl]
  refine oq.Xcpy rx fun w6 oq2 hg => ?_
  have hB6 := Below.app hB hB.size hg fun b hb => (oq.blk b hb).1
  have E6 := E.trans (hB6.mono E.size)
  obtain ⟨seed, hseed⟩ : ∃ seed, seed = (RS x).take (List.replicate K (0 : El 8)).length ++ (List.replicate K (0 : El 8)).drop (RS x).length := ⟨_, rfl⟩
  have lseed : seed.length = K := by rw [hseed]; simp only [List.length_append, List.length_take, List.length_drop, List.length_replicate]; omega
  rw [← hseed] at oq2
  have hrb6 := hrb.up E6
  simp (maxSteps := 1000000) (disch := omega) only [WS, List.getElem_cons_zero, List.getElem_cons_succ, Option.isNone_some, Option.isNone_none, List.getD_cons_zero, List.getD_cons_succ, I.at, atL, atO, atP, evp, evs, retV, ↓reduceIte, Nat.reduceEqDiff, reduceCtorEq, AS, t1, t3, t5, hrb6.Xld (show 0 < _ by simp), hrb6.Xld (show 1 < _ by simp), hrb6.Xld (show 2 < _ by simp)]
  refine X_call0 ((culletlaw19_column_spec w6 f K M sq seed oq2.sl hf hk hkm lseed).mono ?_)
  rintro sc w7 ⟨hB, oc⟩
  have hB7 := hB6.trans (hB.mono hB6.size)
  have hS7 := hS.up (frmB w1) hB7
  have z7 := hB7.size
  have oc := oc.mono (show w4.heap.size ≤ w6.heap.size from hB6.size)
  obtain ⟨g, tg, hgl, hgv⟩ := colF_val (n := K + M) hf hkm (by omega) lseed
  clear hB7 hB6 hg oq2 oq rx h5 hrb5 hB E5 E6 hrb6 h4 hrb4
  simp (maxSteps := 1000000) (disch := omega) only [WS, List.getElem_cons_zero, List.getElem_cons_succ, Option.isNone_some, Option.isNone_none, List.getD_cons_zero, List.getD_cons_succ, I.at, atL, atO, atP, evp, evs, retV, ↓reduceIte, Nat.reduceEqDiff, reduceCtorEq, AS, t1, t3, t5]
  refine loop_of (fun t w' => t 1 = .pointer (some ⟨b, 0, none⟩) ∧ t 3 = sv ∧ t 5 = .int .i64 (x : Int) ∧ t 7 = sc ∧ ∃ (i : Nat) (Re : Nat → List (El 8)), t 8 = .int .i64 (i : Int) ∧ i ≤ K + M ∧ (∀ j, j < K + M → (Re j).length = hsd.length) ∧ (∀ j, j < K + M → ∀ y, y < x → nth (Re j) y = valS f K (G y) j) ∧ (∀ j, j < i → nth (Re j) x = valS f K g j) ∧ ShM w1.heap.size (fun w' => RowKit.Below w1.heap.size w1 w') (fun _ => []) sv hs1 Re w' ∧ Ow w4.heap.size w' sc ((List.range (K + M)).map (colF f K seed)) ∧ w4.heap.size ≤ w'.heap.size) (fun t _ => K + M - (toI (t 8)).toNat)
    ⟨by simp only [WS, List.getElem_cons_zero, List.getElem_cons_succ, Option.isNone_some, Option.isNone_none, List.getD_cons_zero, List.getD_cons_succ, I.at, atL, atO, atP, evp, evs, retV, ↓reduceIte, Nat.reduceEqDiff, reduceCtorEq]; exact t1, by simp only [WS, List.getElem_cons_zero, List.getElem_cons_succ, Option.isNone_some, Option.isNone_none, List.getD_cons_zero, List.getD_cons_succ, I.at, atL, atO, atP, evp, evs, retV, ↓reduceIte, Nat.reduceEqDiff, reduceCtorEq]; exact t3, by simp only [WS, List.getElem_cons_zero, List.getElem_cons_succ, Option.isNone_some, Option.isNone_none, List.getD_cons_zero, List.getD_cons_succ, I.at, atL, atO, atP, evp, evs, retV, ↓reduceIte, Nat.reduceEqDiff, reduceCtorEq]; exact t5, by simp only [WS, List.getElem_cons_zero, List.getElem_cons_succ, Option.isNone_some, Option.isNone_none, List.getD_cons_zero, List.getD_cons_succ, I.at, atL, atO, atP, evp, evs, retV, ↓reduceIte, Nat.reduceEqDiff, reduceCtorEq], 0, Rd, by simp only [WS, List.getElem_cons_zero, List.getElem_cons_succ, Option.isNone_some, Option.isNone_none, List.getD_cons_zero, List.getD_cons_succ, I.at, atL, atO, atP, evp, evs, retV, ↓reduceIte, Nat.reduceEqDiff, reduceCtorEq]; rfl, by omega, hRl, hRv, fun j hj => absurd hj (Nat.not_lt_zero _), hS7, oc, z7⟩ ?_
  clear t1 t3 t5 oc hS7 z7
  rintro t w8 ⟨t1, t3, t5, t7, i, Re, t8, hi, hRel, hRev, hRex, hS8, oc, z8⟩
  have hsl := hS8.top.sl
  by_cases hil : i < K + M
  rotate_left
  · obtain rfl : i = K + M := by omega
    simp (maxSteps := 1000000) (disch := omega) only [WS, List.getElem_cons_zero, List.getElem_cons_succ, Option.isNone_some, Option.isNone_none, List.getD_cons_zero, List.getD_cons_succ, I.at, atL, atO, atP, evp, evs, retV, ↓reduceIte, Nat.reduceEqDiff, reduceCtorEq, AS, t1, t3, t5, t7, t8, hsl.Xlen, lhs']
    refine ⟨⟨x + 1, Re, fun y => if y = x then g else G y, rfl, by omega, hRel, fun j hj y hy => ?_, fun y hy => ?_, hS8⟩, by omega⟩
    · by_cases e : y = x
      · subst e
        rw [hRex j hj, show (fun z => if z = y then g else G z) y = g from if_pos rfl]
      · rw [hRev j hj y (by omega), show (fun z => if z = x then g else G z) y = G y from if_neg e]
    · by_cases e : y = x
      · rw [show (fun z => if z = x then g else G z) y = g from if_pos e]; exact ⟨tg, hgl⟩
      · rw [show (fun z => if z = x then g else G z) y = G y from if_neg e]; exact hG y (by omega)
  simp (maxSteps := 1000000) (disch := omega) only [WS, List.getElem_cons_zero, List.getElem_cons_succ, Option.isNone_some, Option.isNone_none, List.getD_cons_zero, List.getD_cons_succ, I.at, atL, atO, atP, evp, evs, retV, ↓reduceIte, Nat.reduceEqDiff, reduceCtorEq, AS, t1, t3, t5, t7, t8, hsl.Xlen, lhs']
  refine WP_dops ?_
  have bd := bel_drew w8
  have hS8 := hS8.up (frmB w1) bd
  have oc := oc.up bd
  have z8 := Nat.le_trans z8 bd.size
  clear bd hsl
  have hsl := hS8.top.sl
  have iS : i < hs1.length := by omega
  have si := hS8.sl iS
  have ixR : x < (Re i).length := by rw [hRel i hil]; exact hxl
  have ic : i < ((List.range (K + M)).map (colF f K seed)).length := by rw [List.length_map, List.length_range]; exact hil
  have ec : ((List.range (K + M)).map (colF f K seed))[i] = valS f K g i := by rw [List.getElem_map, List.getElem_range]; exact hgv i hil
  simp (maxSteps := 1000000) (disch := omega) only [ES, List.mem_cons, List.not_mem_nil, implies_true, forall_const, WS, List.getElem_cons_zero, List.getElem_cons_succ, Option.isNone_some, Option.isNone_none, List.getD_cons_zero, List.getD_cons_succ, I.at, atL, atO, atP, evp, evs, retV, ↓reduceIte, Nat.reduceEqDiff, reduceCtorEq, AS, t1, t3, t5, t7, t8, hsl.Eix iS, hsl.Eld iS, oc.sl.Eix ic, oc.sl.Eld ic, cell_e8, ec, si.Eix ixR]
  have hne : Rd i ≠ [] := ne_of_len (hRl i hil) hT
  obtain ⟨ci, hci, -, hci2⟩ := (hS.row i iS hne).blk
  refine hS8.Est (frmB w1) iS ixR (fun b hb => by rw [hci] at hb; cases hb; obtain ⟨c9, h9, h10, -⟩ := (hS.row i iS hne).blk; rw [hci] at h9; cases h9; exact h10) (valS f K g i) fun w9 c hS9 hg hc => ?_
  rw [hci] at hc
  cases hc
  have oc := oc.gr' hg fun y hy e => by cases hy; have := (oc.blk _ e).1; omega
  have z8 := Nat.le_trans z8 hg.size
  simp (maxSteps := 1000000) (disch := omega) only [ES, List.mem_cons, List.not_mem_nil, implies_true, forall_const, WS, List.getElem_cons_zero, List.getElem_cons_succ, Option.isNone_some, Option.isNone_none, List.getD_cons_zero, List.getD_cons_succ, I.at, atL, atO, atP, evp, evs, retV, ↓reduceIte, Nat.reduceEqDiff, reduceCtorEq, AS, t1, t3, t5, t7, t8]
  refine ⟨⟨i + 1, _, rfl, by omega, fun j hj => ?_, fun j hj y hy => ?_, fun j hj => ?_, hS9, oc, z8⟩, by omega⟩
  · by_cases e : j = i
    · subst e; simp only [if_true]; rw [List.length_set]; exact hRel j hj
    · simp only [if_neg e]; exact hRel j hj
  · by_cases e : j = i
    · subst e; simp only [if_true]; rw [nth_set ixR, if_neg (by omega)]; exact hRev j hj y hy
    · simp only [if_neg e]; exact hRev j hj y hy
  · by_cases e : j = i
    · subst e; simp only [if_true]; rw [nth_set ixR, if_pos rfl]
    · simp only [if_neg e]; exact hRex j (by omega)
end Go.Proofs.Ytbaljbadlfopgaa.Fw

set_option linter.unusedVariables false
set_option linter.unusedSimpArgs false
set_option maxRecDepth 100000
set_option maxHeartbeats 1000000
namespace Go.Proofs.Ytbaljbadlfopgaa.Fw
open Go Go.Fw Go.Proofs
attribute [local irreducible] stepI
def c_culletlaw19_apart : C := .seq (.ops [⟨0, (some 2), none, .mov (.c (.bool false)), []⟩]) (.seq (.ops [⟨0, (some 10), none, .mov (.t 0), []⟩, ⟨1, (some 11), none, .len (.t 10), []⟩, ⟨2, (some 12), none, .mks 25 24 [.slice none 0 0] (.t 11) (.t 11), []⟩, ⟨3, (some 3), none, .mov (.t 12), []⟩]) (.seq (.seq (.ops [⟨0, (some 4), none, .mov (.c (.int .i64 0)), []⟩]) (.block 0 (.loop (.seq (.seq (.ops [⟨0, (some 13), none, .mov (.t 4), []⟩, ⟨1, (some 14), none, .mov (.t 0), []⟩, ⟨2, (some 15), none, .len (.t 14), []⟩, ⟨3, (some 16), none, .bin .lss (.t 13) (.t 15), []⟩]) (.ite (.t 16) .skip (.exit 0))) (.seq (.block 1 (.seq (.seq (.ops [⟨0, (some 5), none, .mov (.c (.int .i64 0)), []⟩]) (.block 2 (.loop (.seq (.seq (.ops [⟨0, (some 19), none, .mov (.t 5), []⟩, ⟨1, (some 20), none, .mov (.t 0), []⟩, ⟨2, (some 21), none, .mov (.t 4), []⟩, ⟨3, (some 22), none, .ixs 1 (.t 20) (.t 21), []⟩, ⟨4, (some 23), none, .ld (.t 22), []⟩, ⟨5, (some 24), none, .len (.t 23), []⟩, ⟨6, (some 25), none, .bin .lss (.t 19) (.t 24), []⟩]) (.ite (.t 25) .skip (.exit 2))) (.seq (.block 3 (.ops [⟨0, (some 28), none, .mov (.t 0), []⟩, ⟨1, (some 29), none, .mov (.t 4), []⟩, ⟨2, (some 30), none, .ixs 1 (.t 28) (.t 29), []⟩, ⟨3, (some 31), none, .ld (.t 30), []⟩, ⟨4, (some 32), none, .mov (.t 5), []⟩, ⟨5, (some 33), none, .mov (.t 4), []⟩, ⟨6, (some 34), none, .cnv .u8 (.t 33), []⟩, ⟨7, (some 35), none, .ixs 1 (.t 31) (.t 32), []⟩, ⟨8, none, none, .st (.t 35) (.t 34), []⟩])) (.ops [⟨0, (some 26), none, .mov (.t 5), []⟩, ⟨1, (some 27), none, .bin .add (.t 26) (.c (.int .i64 1)), []⟩, ⟨2, (some 5), none, .mov (.t 27), []⟩])))))) (.ops [⟨0, (some 36), none, .mov (.t 3), []⟩, ⟨1, (some 37), none, .mov (.t 4), []⟩, ⟨2, (some 38), none, .mov (.t 0), []⟩, ⟨3, (some 39), none, .mov (.t 4), []⟩, ⟨4, (some 40), none, .ixs 1 (.t 38) (.t 39), []⟩, ⟨5, (some 41), none, .ld (.t 40), []⟩, ⟨6, (some 42), none, .ixs 1 (.t 36) (.t 37), []⟩, ⟨7, none, none, .st (.t 42) (.t 41), []⟩]))) (.ops [⟨0, (some 17), none, .mov (.t 4), []⟩, ⟨1, (some 18), none, .bin .add (.t 17) (.c (.int .i64 1)), []⟩, ⟨2, (some 4), none, .mov (.t 18), []⟩])))))) (.seq (.seq (.ops [⟨0, (some 6), none, .mov (.c (.int .i64 0)), []⟩]) (.block 4 (.loop (.seq (.seq (.ops [⟨0, (some 43), none, .mov (.t 6), []⟩, ⟨1, (some 44), none, .mov (.t 0), []⟩, ⟨2, (some 45), none, .len (.t 44), []⟩, ⟨3, (some 46), none, .bin .lss (.t 43) (.t 45), []⟩]) (.ite (.t 46) .skip (.exit 4))) (.seq (.block 5 (.seq (.ops [⟨0, (some 7), none, .mov (.c (.int .i64 0)), []⟩]) (.block 6 (.loop (.seq (.seq (.ops [⟨0, (some 49), none, .mov (.t 7), []⟩, ⟨1, (some 50), none, .bin .lss (.t 49) (.c (.int .i64 70)), []⟩]) (.ite (.t 50) .skip (.exit 6))) (.seq (.block 7 (.ops [⟨0, (some 53), none, .mov (.t 3), []⟩, ⟨1, (some 54), none, .mov (.t 6), []⟩, ⟨2, (some 55), none, .mov (.t 3), []⟩, ⟨3, (some 56), none, .mov (.t 6), []⟩, ⟨4, (some 57), none, .ixs 1 (.t 55) (.t 56), []⟩, ⟨5, (some 58), none, .ld (.t 57), []⟩, ⟨6, (some 59), none, .mov (.t 6), []⟩, ⟨7, (some 60), none, .cnv .u8 (.t 59), []⟩, ⟨8, (some 61), none, .bsl 5 1 [.int .u8 0] [(0, (1, .t 60))], []⟩, ⟨9, (some 62), none, .app 5 1 [.int .u8 0] (.t 58) (.t 61), []⟩, ⟨10, (some 63), none, .ixs 1 (.t 53) (.t 54), []⟩, ⟨11, none, none, .st (.t 63) (.t 62), []⟩])) (.ops [⟨0, (some 51), none, .mov (.t 7), []⟩, ⟨1, (some 52), none, .bin .add (.t 51) (.c (.int .i64 1)), []⟩, ⟨2, (some 7), none, .mov (.t 52), []⟩]))))))) (.ops [⟨0, (some 47), none, .mov (.t 6), []⟩, ⟨1, (some 48), none, .bin .add (.t 47) (.c (.int .i64 1)), []⟩, ⟨2, (some 6), none, .mov (.t 48), []⟩])))))) (.seq (.seq (.ops [⟨0, (some 8), none, .mov (.c (.int .i64 0)), []⟩]) (.block 8 (.loop (.seq (.seq (.ops [⟨0, (some 64), none, .mov (.t 8), []⟩, ⟨1, (some 65), none, .mov (.t 0), []⟩, ⟨2, (some 66), none, .len (.t 65), []⟩, ⟨3, (some 67), none, .bin .lss (.t 64) (.t 66), []⟩]) (.ite (.t 67) .skip (.exit 8))) (.seq (.block 9 (.seq (.ops [⟨0, (some 9), none, .mov (.c (.int .i64 0)), []⟩]) (.block 10 (.loop (.seq (.seq (.ops [⟨0, (some 70), none, .mov (.t 9), []⟩, ⟨1, (some 71), none, .mov (.t 3), []⟩, ⟨2, (some 72), none, .mov (.t 8), []⟩, ⟨3, (some 73), none, .ixs 1 (.t 71) (.t 72), []⟩, ⟨4, (some 74), none, .ld (.t 73), []⟩, ⟨5, (some 75), none, .len (.t 74), []⟩, ⟨6, (some 76), none, .bin .lss (.t 70) (.t 75), []⟩]) (.ite (.t 76) .skip (.exit 10))) (.seq (.block 11 (.seq (.ops [⟨0, (some 79), none, .mov (.t 9), []⟩, ⟨1, (some 80), none, .mov (.t 0), []⟩, ⟨2, (some 81), none, .mov (.t 8), []⟩, ⟨3, (some 82), none, .ixs 1 (.t 80) (.t 81), []⟩, ⟨4, (some 83), none, .ld (.t 82), []⟩, ⟨5, (some 84), none, .len (.t 83), []⟩, ⟨6, (some 85), none, .bin .lss (.t 79) (.t 84), []⟩, ⟨7, (some 86), none, .mov (.t 85), []⟩, ⟨8, (some 87), (some (86, true)), .mov (.t 0), []⟩, ⟨9, (some 88), (some (86, true)), .mov (.t 8), []⟩, ⟨10, (some 89), (some (86, true)), .ixs 1 (.t 87) (.t 88), []⟩, ⟨11, (some 90), (some (86, true)), .ld (.t 89), []⟩, ⟨12, (some 91), (some (86, true)), .mov (.t 9), []⟩, ⟨13, (some 92), (some (86, true)), .ixs 1 (.t 90) (.t 91), []⟩, ⟨14, (some 93), (some (86, true)), .ld (.t 92), []⟩, ⟨15, (some 94), (some (86, true)), .mov (.t 8), []⟩, ⟨16, (some 95), (some (86, true)), .cnv .u8 (.t 94), []⟩, ⟨17, (some 96), (some (86, true)), .bin .neq (.t 93) (.t 95), []⟩, ⟨18, (some 97), none, .pick (.t 86) (.t 96) (.c (.bool false)), []⟩, ⟨19, (some 98), none, .mov (.t 97), []⟩, ⟨20, (some 99), (some (98, false)), .mov (.t 3), []⟩, ⟨21, (some 100), (some (98, false)), .mov (.t 8), []⟩, ⟨22, (some 101), (some (98, false)), .ixs 1 (.t 99) (.t 100), []⟩, ⟨23, (some 102), (some (98, false)), .ld (.t 101), []⟩, ⟨24, (some 103), (some (98, false)), .mov (.t 9), []⟩, ⟨25, (some 104), (some (98, false)), .ixs 1 (.t 102) (.t 103), []⟩, ⟨26, (some 105), (some (98, false)), .ld (.t 104), []⟩, ⟨27, (some 106), (some (98, false)), .mov (.t 8), []⟩, ⟨28, (some 107), (some (98, false)), .cnv .u8 (.t 106), []⟩, ⟨29, (some 108), (some (98, false)), .bin .neq (.t 105) (.t 107), []⟩, ⟨30, (some 109), none, .pick (.t 98) (.c (.bool true)) (.t 108), []⟩]) (.ite (.t 109) (.seq (.ops [⟨0, (some 2), none, .mov (.c (.bool false)), []⟩]) .ret) .skip))) (.ops [⟨0, (some 77), none, .mov (.t 9), []⟩, ⟨1, (some 78), none, .bin .add (.t 77) (.c (.int .i64 1)), []⟩, ⟨2, (some 9), none, .mov (.t 78), []⟩]))))))) (.ops [⟨0, (some 68), none, .mov (.t 8), []⟩, ⟨1, (some 69), none, .bin .add (.t 68) (.c (.int .i64 1)), []⟩, ⟨2, (some 8), none, .mov (.t 69), []⟩])))))) (.seq (.ops [⟨0, (some 2), none, .mov (.c (.bool true)), []⟩]) .ret)))))
attribute [irreducible] c_culletlaw19_apart
theorem run_culletlaw19_apart {args : List Value} {w : World} {K : Value → World → Prop} (hn : args.length ≤ 110) (h : WP Try.prog c_culletlaw19_apart (endQ [.t 2] K) (initT args) w) : CallV Try.prog 31 args w K :=
  call_of follows Try.func31 (by kernel_rfl) (by kernel_rfl) hn h
end Go.Proofs.Ytbaljbadlfopgaa.Fw
namespace Go.Proofs.Ytbaljbadlfopgaa.Fw
open Go Go.Fw
theorem Hj_eq {hs : List Hd} {j : Nat} (h : j < hs.length) : Cell.v hs[j] = Hj hs j := (Hj_get h).symm
def m8 (n : Nat) : El 8 := ⟨BitVec.ofNat 8 n⟩
theorem m8_v (n : Nat) (h : n < 256) : (m8 n).v.toNat = n := by simp [m8]; omega
theorem rep_of {l : List (El 8)} {n : Nat} {x : El 8} (hl : l.length = n) (h : ∀ i, i < n → (co l).c i = x) : l = List.replicate n x :=
  co_ext (by simp [hl]) (Ps.ext fun i => by
    by_cases hi : i < n
    · rw [h i hi, co_get _ (by simpa using hi)]; simp
    · rw [co_dg l i (by omega), co_dg _ i (by simp; omega)])
set_option maxHeartbeats 8000000 in
theorem culletlaw19_apart_spec (w : World) (B : Nat) (F : World → Prop) (D : Nat → Prop) (rows : Value) (hs : List Hd) (R : List (List (El 8))) (hap : Apart rows hs) (hF : Frm F D) (hD : ∀ i (hi : i < hs.length) b, Fw.blk (Cell.v hs[i]) = some b → D b) (hDn : ∀ b, w.heap.size ≤ b → D b) (hM : Rof B F rows hs R w) (hne : ∀ j, j < hs.length → (R.getD j []).length ≤ 1000000) (hn0 : 0 < hs.length) (hn : hs.length ≤ 250) :
    CallV Try.prog 31 [rows] w fun v w' => v = .bool true ∧ F w' := by
  refine run_culletlaw19_apart (by simp) ?_
  simp only [c_culletlaw19_apart, WS, List.getElem_cons_zero, List.getElem_cons_succ, Option.isNone_some, Option.isNone_none, List.getD_cons_zero, List.getD_cons_succ, I.at, atL, atO, atP, evp, evs, retV, ↓reduceIte, Nat.reduceEqDiff, reduceCtorEq]
  simp (maxSteps := 1000000) (disch := omega) only [WS, List.getElem_cons_zero, List.getElem_cons_succ, Option.isNone_some, Option.isNone_none, List.getD_cons_zero, List.getD_cons_succ, I.at, atL, atO, atP, evp, evs, retV, ↓reduceIte, Nat.reduceEqDiff, reduceCtorEq, AS, hM.2.2.1.Xlen]
  refine X_mks (x := hdn) (by simp only [maxBytes]; omega) (by omega) fun gs w0 og hB => ?_
  obtain ⟨gsb, hgb, hgbl⟩ := og.sl.blk_lt (by intro e; have h := congrArg List.length e; rw [List.length_replicate] at h; have h2 : hs.length = 0 := h; omega)
  have hgsz : w.heap.size ≤ gsb := (og.blk gsb hgb).1
  obtain ⟨rb, hrb, hrlt⟩ := hM.2.2.1.blk_lt (by rintro rfl; simp at hn0)
  have og := og.mono hM.2.2.2.2
  have hHb : ∀ j b, j < hs.length → Fw.blk (Hj hs j) = some b → b < gsb ∧ Fw.blk rows ≠ some b := fun j b hj hb => by
    rw [← Hj_eq hj] at hb
    have := ((hM.2.1 j hj).blk b hb).2
    exact ⟨by omega, hap.list j hj b hb⟩
  have hM : Rof B F rows hs R w0 := ⟨hM.1, fun i hi => (hM.2.1 i hi).up hB, hM.2.2.1.up hB, hF.up _ _ hM.2.2.2.1 hB, Nat.le_trans hM.2.2.2.2 hB.size⟩
  have hDgs : D gsb := hDn gsb hgsz
  simp (maxSteps := 1000000) (disch := omega) only [WS, List.getElem_cons_zero, List.getElem_cons_succ, Option.isNone_some, Option.isNone_none, List.getD_cons_zero, List.getD_cons_succ, I.at, atL, atO, atP, evp, evs, retV, ↓reduceIte, Nat.reduceEqDiff, reduceCtorEq, AS]
  refine loop_of (fun t w' => t 0 = rows ∧ t 3 = gs ∧ ∃ (i : Nat) (R' : List (List (El 8))) (G : List Hd), t 4 = .int .i64 (i : Int) ∧ i ≤ hs.length ∧ Rof B F rows hs R' w' ∧ Ow B w' gs G ∧ G.length = hs.length ∧ (∀ j, j < i → Hj G j = Hj hs j) ∧ gsb < w'.heap.size ∧ (∀ j, j < hs.length → (R'.getD j []).length = (R.getD j []).length) ∧ ∀ j, j < i → R'.getD j [] = List.replicate (R.getD j []).length (m8 j))
    (fun t _ => hs.length - (toI (t 4)).toNat) ⟨by simp only [WS, List.getElem_cons_zero, List.getElem_cons_succ, Option.isNone_some, Option.isNone_none, List.getD_cons_zero, List.getD_cons_succ, I.at, atL, atO, atP, evp, evs, retV, ↓reduceIte, Nat.reduceEqDiff, reduceCtorEq], by simp only [WS, List.getElem_cons_zero, List.getElem_cons_succ, Option.isNone_some, Option.isNone_none, List.getD_cons_zero, List.getD_cons_succ, I.at, atL, atO, atP, evp, evs, retV, ↓reduceIte, Nat.reduceEqDiff, reduceCtorEq], 0, R, _, rfl, by omega, hM, og, by simp, fun j hj => by omega, hgbl, fun _ _ => rfl, fun j hj => by omega⟩ ?_
  clear hM og hgbl
  rintro t w1 ⟨t0, t3, i, R', G, t4, hi, hM, og, hGl, hGv, hgbl, hlen, hdone⟩
  by_cases hil : i < hs.length
  · have hl := hM.1
    have hlenI := hlen i hil
    have hni0 := hne i hil
    have hF1 : Frm (fun w => F w ∧ Ow B w gs G) (fun b => D b ∧ b ≠ gsb) := ⟨fun w1 w2 b h hd hg => ⟨hF.gr _ _ b h.1 hd.1 hg, h.2.grown hg (by rw [hgb]; intro e; cases e; exact hd.2 rfl)⟩, fun w1 w2 h hB => ⟨hF.up _ _ h.1 hB, h.2.up hB⟩⟩
    have hD1 : ∀ i (hi : i < hs.length) b, Fw.blk (Cell.v hs[i]) = some b → D b ∧ b ≠ gsb := fun i hi b hb => ⟨hD i hi b hb, fun e => by rw [Hj_eq hi] at hb; have := (hHb i b hi hb).1; omega⟩
    have W := (Rof.rws (α := El 8) (B := B) hap hF1 hD1).wr R' i hil hl
    have hM1 : Rof B (fun w => F w ∧ Ow B w gs G) rows hs R' w1 := ⟨hM.1, hM.2.1, hM.2.2.1, ⟨hM.2.2.2.1, og⟩, hM.2.2.2.2⟩
    simp (maxSteps := 1000000) (disch := omega) only [WS, List.getElem_cons_zero, List.getElem_cons_succ, Option.isNone_some, Option.isNone_none, List.getD_cons_zero, List.getD_cons_succ, I.at, atL, atO, atP, evp, evs, retV, ↓reduceIte, Nat.reduceEqDiff, reduceCtorEq, AS, t0, t3, t4, hM.2.2.1.Xlen]
    refine loop_of (fun t w' => t 0 = rows ∧ t 3 = gs ∧ t 4 = .int .i64 (i : Int) ∧ ∃ (j : Nat) (a : List (El 8)), t 5 = .int .i64 (j : Int) ∧ j ≤ a.length ∧ Rof B (fun w => F w ∧ Ow B w gs G) rows hs (R'.set i a) w' ∧ gsb < w'.heap.size ∧ a.length = (R.getD i []).length ∧ ∀ x, x < j → (co a).c x = m8 i)
      (fun t _ => (R.getD i []).length - (toI (t 5)).toNat) ⟨by simp only [WS, List.getElem_cons_zero, List.getElem_cons_succ, Option.isNone_some, Option.isNone_none, List.getD_cons_zero, List.getD_cons_succ, I.at, atL, atO, atP, evp, evs, retV, ↓reduceIte, Nat.reduceEqDiff, reduceCtorEq]; exact t0, by simp only [WS, List.getElem_cons_zero, List.getElem_cons_succ, Option.isNone_some, Option.isNone_none, List.getD_cons_zero, List.getD_cons_succ, I.at, atL, atO, atP, evp, evs, retV, ↓reduceIte, Nat.reduceEqDiff, reduceCtorEq]; exact t3, by simp only [WS, List.getElem_cons_zero, List.getElem_cons_succ, Option.isNone_some, Option.isNone_none, List.getD_cons_zero, List.getD_cons_succ, I.at, atL, atO, atP, evp, evs, retV, ↓reduceIte, Nat.reduceEqDiff, reduceCtorEq]; exact t4, 0, R'.getD i [], rfl, by omega, by rw [show R'.set i (R'.getD i []) = R' by rw [List.getD_eq_getElem?_getD, List.getElem?_eq_getElem (by omega)]; simp]; exact hM1, hgbl, hlenI, fun x hx => by omega⟩ ?_
    clear t0 t3 t4 hM hM1 og hgbl
    rintro t w2 ⟨t0, t3, t4, j, a, t5, hj, hM, hgbl, ha, hav⟩
    have hrl := hM.2.2.1
    have hai := (hM.2.1 i hil).sl
    rw [getD_setL R' (by omega), if_pos rfl] at hai
    by_cases hja : j < a.length
    · have e1 : IntKind.u8.wrap (i : Int) = ((m8 i).v.toNat : Int) := by rw [wrap_u8 _ (by omega), m8_v _ (by omega)]
      simp (maxSteps := 1000000) (disch := omega) only [WS, List.getElem_cons_zero, List.getElem_cons_succ, Option.isNone_some, Option.isNone_none, List.getD_cons_zero, List.getD_cons_succ, I.at, atL, atO, atP, evp, evs, retV, ↓reduceIte, Nat.reduceEqDiff, reduceCtorEq, AS, t0, t3, t4, t5, hrl.Xix hil, hrl.Xld hil, hai.Xlen, e1, hai.Xix hja]
      refine W.Xst hM hja (m8 i) fun w3 hM3 hg3 => ?_
      simp (maxSteps := 1000000) (disch := omega) only [WS, List.getElem_cons_zero, List.getElem_cons_succ, Option.isNone_some, Option.isNone_none, List.getD_cons_zero, List.getD_cons_succ, I.at, atL, atO, atP, evp, evs, retV, ↓reduceIte, Nat.reduceEqDiff, reduceCtorEq, AS, t0, t3, t4, t5]
      refine ⟨⟨j + 1, _, rfl, by simp; omega, hM3, Nat.lt_of_lt_of_le hgbl hg3.size, by simp [ha], fun x hx => ?_⟩, by omega⟩
      rw [co_set _ hja]
      by_cases hxj : x = j
      · rw [if_pos hxj]
      · rw [if_neg hxj]; exact hav x (by omega)
    · obtain ⟨hMl, hMo, hMr, ⟨hMF, og⟩, hMs⟩ := hM
      have iG : i < G.length := by omega
      simp (maxSteps := 1000000) (disch := omega) only [WS, List.getElem_cons_zero, List.getElem_cons_succ, Option.isNone_some, Option.isNone_none, List.getD_cons_zero, List.getD_cons_succ, I.at, atL, atO, atP, evp, evs, retV, ↓reduceIte, Nat.reduceEqDiff, reduceCtorEq, AS, t0, t3, t4, t5, hrl.Xix hil, hrl.Xld hil, hai.Xlen, og.sl.Xix iG]
      refine og.Xst iG hs[i] fun w3 og3 hg3 => ?_
      rw [hgb] at hg3
      have hMo3 : ∀ x (hx : x < hs.length), Ow B w3 (Cell.v hs[x]) ((R'.set i a).getD x []) := fun x hx => (hMo x hx).grown hg3 (by rw [Hj_eq hx]; intro e; have := (hHb x gsb hx e).1; omega)
      have hMr3 : Sl w3 rows hs := hMr.grown hg3 (Or.inl (by rw [hrb]; intro e; cases e; omega))
      simp (maxSteps := 1000000) (disch := omega) only [WS, List.getElem_cons_zero, List.getElem_cons_succ, Option.isNone_some, Option.isNone_none, List.getD_cons_zero, List.getD_cons_succ, I.at, atL, atO, atP, evp, evs, retV, ↓reduceIte, Nat.reduceEqDiff, reduceCtorEq, AS, t0, t3, t4, t5]
      refine ⟨⟨i + 1, R'.set i a, G.set i hs[i], rfl, by omega, ⟨hMl, hMo3, hMr3, hF.gr _ _ gsb hMF hDgs hg3, Nat.le_trans hMs hg3.size⟩, og3, by simpa using hGl, fun x hx => ?_, Nat.lt_of_lt_of_le hgbl hg3.size, fun x hx => ?_, fun x hx => ?_⟩, by omega⟩
      · rw [Hj_set iG]
        by_cases hxi : x = i
        · rw [if_pos hxi, hxi, Hj_eq hil]
        · rw [if_neg hxi]; exact hGv x (by omega)
      · rw [getD_setL R' (by omega)]
        by_cases hxi : x = i
        · rw [if_pos hxi, ha, hxi]
        · rw [if_neg hxi]; exact hlen x hx
      · rw [getD_setL R' (by omega)]
        by_cases hxi : x = i
        · rw [if_pos hxi, hxi]; exact rep_of ha fun y hy => hav y (by omega)
        · rw [if_neg hxi]; exact hdone x (by omega)
  obtain rfl : i = hs.length := by omega
  obtain ⟨hl, hO, hrl, hbel, hsz⟩ := hM
  have hOj : ∀ j, j < hs.length → Ow B w1 (Hj hs j) (R'.getD j []) := fun j hj => by rw [← Hj_eq hj]; exact hO j hj
  have hDH : ∀ j b, j < hs.length → Fw.blk (Hj hs j) = some b → D b := fun j b hj hb => hD j hj b (by rw [Hj_eq hj]; exact hb)
  have hDg : ∀ b, gsb ≤ b → D b := fun b hb => hDn b (by omega)
  have G0 : Gr (α := El 8) B F rows gsb hs (fun j => Hj hs j) (fun j => R'.getD j []) (fun j => R'.getD j [] ++ List.replicate (if j < 0 then 70 else if j = 0 then 0 else 0) (m8 j)) w1 := by
    have hif : ∀ j, (if j < 0 then 70 else if j = 0 then 0 else 0) = 0 := fun j => by rw [if_neg (by omega)]; split <;> rfl
    refine ⟨hrl, fun j hj => (hOj j hj).sl, fun j hj => by rw [hif]; simpa using hOj j hj, fun j hj => ⟨_, rfl⟩, fun j hj hR => (hOj j hj).shape hR, hHb, fun b hb => by rw [hrb] at hb; cases hb; omega, fun j b hj hb => Or.inl hb, fun j m b hj hm hjm hb => ?_, fun j m b hj hm hjm hb => ?_, hbel, hsz, hgbl⟩
    · rw [← Hj_eq hj] at hb; rw [← Hj_eq hm]; exact hap.two j m hj hm b hjm hb
    · rw [← Hj_eq hj] at hb; rw [← Hj_eq hm]; exact hap.two j m hj hm b hjm hb
  simp (maxSteps := 1000000) (disch := omega) only [WS, List.getElem_cons_zero, List.getElem_cons_succ, Option.isNone_some, Option.isNone_none, List.getD_cons_zero, List.getD_cons_succ, I.at, atL, atO, atP, evp, evs, retV, ↓reduceIte, Nat.reduceEqDiff, reduceCtorEq, AS, t0, t3, t4, hrl.Xlen]
  refine loop_of (fun t w' => t 0 = rows ∧ t 3 = gs ∧ ∃ (i : Nat) (G : List Hd) (Gv : Nat → Value), t 6 = .int .i64 (i : Int) ∧ i ≤ hs.length ∧ Ow B w' gs G ∧ G.length = hs.length ∧ (∀ j, j < hs.length → Hj G j = Gv j) ∧ Gr (α := El 8) B F rows gsb hs Gv (fun j => R'.getD j []) (fun j => R'.getD j [] ++ List.replicate (if j < i then 70 else if j = i then 0 else 0) (m8 j)) w')
    (fun t _ => hs.length - (toI (t 6)).toNat) ⟨by simp only [WS, List.getElem_cons_zero, List.getElem_cons_succ, Option.isNone_some, Option.isNone_none, List.getD_cons_zero, List.getD_cons_succ, I.at, atL, atO, atP, evp, evs, retV, ↓reduceIte, Nat.reduceEqDiff, reduceCtorEq]; exact t0, by simp only [WS, List.getElem_cons_zero, List.getElem_cons_succ, Option.isNone_some, Option.isNone_none, List.getD_cons_zero, List.getD_cons_succ, I.at, atL, atO, atP, evp, evs, retV, ↓reduceIte, Nat.reduceEqDiff, reduceCtorEq]; exact t3, 0, G, _, rfl, by omega, og, hGl, hGv, G0⟩ ?_
  clear t0 t3 t4 G0 og hGl hGv hgbl hbel hsz hrl hO hOj
  rintro t w3 ⟨t0, t3, i, G, Gv, t6, hi, og, hGl, hGv, hG⟩
  by_cases hil : i < hs.length
  · have hli := hlen i hil
    have hni := hne i hil
    simp (maxSteps := 1000000) (disch := omega) only [WS, List.getElem_cons_zero, List.getElem_cons_succ, Option.isNone_some, Option.isNone_none, List.getD_cons_zero, List.getD_cons_succ, I.at, atL, atO, atP, evp, evs, retV, ↓reduceIte, Nat.reduceEqDiff, reduceCtorEq, AS, t0, t3, t6, hG.rl.Xlen]
    refine loop_of (fun t w' => t 0 = rows ∧ t 3 = gs ∧ t 6 = .int .i64 (i : Int) ∧ ∃ (c : Nat) (G : List Hd) (Gv : Nat → Value), t 7 = .int .i64 (c : Int) ∧ c ≤ 70 ∧ Ow B w' gs G ∧ G.length = hs.length ∧ (∀ j, j < hs.length → Hj G j = Gv j) ∧ Gr (α := El 8) B F rows gsb hs Gv (fun j => R'.getD j []) (fun j => R'.getD j [] ++ List.replicate (if j < i then 70 else if j = i then c else 0) (m8 j)) w')
      (fun t _ => 70 - (toI (t 7)).toNat) ⟨by simp only [WS, List.getElem_cons_zero, List.getElem_cons_succ, Option.isNone_some, Option.isNone_none, List.getD_cons_zero, List.getD_cons_succ, I.at, atL, atO, atP, evp, evs, retV, ↓reduceIte, Nat.reduceEqDiff, reduceCtorEq]; exact t0, by simp only [WS, List.getElem_cons_zero, List.getElem_cons_succ, Option.isNone_some, Option.isNone_none, List.getD_cons_zero, List.getD_cons_succ, I.at, atL, atO, atP, evp, evs, retV, ↓reduceIte, Nat.reduceEqDiff, reduceCtorEq]; exact t3, by simp only [WS, List.getElem_cons_zero, List.getElem_cons_succ, Option.isNone_some, Option.isNone_none, List.getD_cons_zero, List.getD_cons_succ, I.at, atL, atO, atP, evp, evs, retV, ↓reduceIte, Nat.reduceEqDiff, reduceCtorEq]; exact t6, 0, G, Gv, rfl, by omega, og, hGl, hGv, hG⟩ ?_
    clear t0 t3 t6 hG og hGl hGv
    rintro t w4 ⟨t0, t3, t6, c, G, Gv, t7, hc, og, hGl, hGv, hG⟩
    by_cases hlt : c < 70
    · have iG : i < G.length := by omega
      have e2 : IntKind.u8.wrap (i : Int) = ((m8 i).v.toNat : Int) := by rw [wrap_u8 _ (by omega), m8_v _ (by omega)]
      have hgi : Cell.v G[i] = Gv i := by rw [Hj_eq iG]; exact hGv i hil
      simp (maxSteps := 1000000) (disch := omega) only [WS, List.getElem_cons_zero, List.getElem_cons_succ, Option.isNone_some, Option.isNone_none, List.getD_cons_zero, List.getD_cons_succ, I.at, atL, atO, atP, evp, evs, retV, ↓reduceIte, Nat.reduceEqDiff, reduceCtorEq, AS, t0, t3, t6, t7, og.sl.Xix iG, og.sl.Xld iG, hgi, e2]
      refine X_bsl (zs := [m8 i]) (by rfl) (by rfl) fun e3 w5 o3 hB => ?_
      have hG := hG.up hF hB
      have og := og.up hB
      have hcur := hG.gr i hil
      have hif : (if i < i then 70 else if i = i then c else 0) = c := by rw [if_neg (by omega), if_pos rfl]
      rw [hif] at hcur
      simp (maxSteps := 1000000) (disch := omega) only [WS, List.getElem_cons_zero, List.getElem_cons_succ, Option.isNone_some, Option.isNone_none, List.getD_cons_zero, List.getD_cons_succ, I.at, atL, atO, atP, evp, evs, retV, ↓reduceIte, Nat.reduceEqDiff, reduceCtorEq, AS, t0, t3, t6, t7]
      refine Ow.Xapp2 hcur o3.sl hG.sz (by simp only [List.length_append, List.length_replicate, List.length_cons, List.length_nil, maxBytes]; omega) (by simp only [List.length_append, List.length_replicate, List.length_cons, List.length_nil]; omega) fun g' w6 og' hgr => ?_
      have hG6 := hG.app (i := i) (g' := g') (m := [m8 i]) hF hDH hDg hil (by rw [hif]; exact og') hgr
      have hgsne : ∀ b, Fw.blk gs = some b → Fw.blk (Gv i) ≠ some b := fun b hb e => by
        rw [hgb] at hb; cases hb
        rcases hG.gk i gsb hil e with h1 | h1
        · have := (hHb i gsb hil h1).1; omega
        · omega
      have og6 := og.keep hgr.keep hgsne
      obtain ⟨x, rfl⟩ : ∃ x : Hd, g' = Cell.v x := ⟨hd g', og'.sl.hd.1.symm⟩
      simp (maxSteps := 1000000) (disch := omega) only [WS, List.getElem_cons_zero, List.getElem_cons_succ, Option.isNone_some, Option.isNone_none, List.getD_cons_zero, List.getD_cons_succ, I.at, atL, atO, atP, evp, evs, retV, ↓reduceIte, Nat.reduceEqDiff, reduceCtorEq, AS, t0, t3, t6, t7, og6.sl.Xix iG]
      refine og6.Xst iG x fun w7 og7 hg7 => ?_
      rw [hgb] at hg7
      have hG7 := hG6.st hF hDgs hg7
      simp (maxSteps := 1000000) (disch := omega) only [WS, List.getElem_cons_zero, List.getElem_cons_succ, Option.isNone_some, Option.isNone_none, List.getD_cons_zero, List.getD_cons_succ, I.at, atL, atO, atP, evp, evs, retV, ↓reduceIte, Nat.reduceEqDiff, reduceCtorEq, AS, t0, t3, t6, t7]
      refine ⟨⟨c + 1, G.set i x, fun j => if j = i then Cell.v x else Gv j, rfl, by omega, og7, by simpa using hGl, fun j hj => ?_, ?_⟩, by omega⟩
      · show _ = if j = i then Cell.v x else Gv j
        rw [Hj_set iG]
        by_cases hji : j = i
        · rw [if_pos hji, if_pos hji]
        · rw [if_neg hji, if_neg hji]; exact hGv j hj
      · have hE : (fun j => if j = i then (R'.getD i [] ++ List.replicate (if i < i then 70 else if i = i then c else 0) (m8 i)) ++ [m8 i] else R'.getD j [] ++ List.replicate (if j < i then 70 else if j = i then c else 0) (m8 j)) = fun j => R'.getD j [] ++ List.replicate (if j < i then 70 else if j = i then c + 1 else 0) (m8 j) := by
          funext j
          by_cases hji : j = i
          · subst hji
            rw [if_pos rfl, hif, List.append_assoc, ← List.replicate_succ', if_neg (by omega), if_pos rfl]
          · rw [if_neg hji, if_neg hji, if_neg hji]
        rw [hE] at hG7
        exact hG7
    · obtain rfl : c = 70 := by omega
      simp (maxSteps := 1000000) (disch := omega) only [WS, List.getElem_cons_zero, List.getElem_cons_succ, Option.isNone_some, Option.isNone_none, List.getD_cons_zero, List.getD_cons_succ, I.at, atL, atO, atP, evp, evs, retV, ↓reduceIte, Nat.reduceEqDiff, reduceCtorEq, AS, t0, t3, t6, t7, show decide (((70 : Nat) : Int) < 70) = false from rfl]
      refine ⟨⟨i + 1, G, Gv, rfl, by omega, og, hGl, hGv, ?_⟩, by omega⟩
      have hE : (fun j => R'.getD j [] ++ List.replicate (if j < i then 70 else if j = i then 70 else 0) (m8 j)) = fun j => R'.getD j [] ++ List.replicate (if j < i + 1 then 70 else if j = i + 1 then 0 else 0) (m8 j) := by
        funext j
        by_cases hji : j < i
        · rw [if_pos hji, if_pos (by omega)]
        · rw [if_neg hji]
          by_cases hj2 : j = i
          · rw [if_pos hj2, if_pos (by omega)]
          · rw [if_neg hj2, if_neg (by omega)]; split <;> rfl
      rw [hE] at hG
      exact hG
  · obtain rfl : i = hs.length := by omega
    simp (maxSteps := 1000000) (disch := omega) only [WS, List.getElem_cons_zero, List.getElem_cons_succ, Option.isNone_some, Option.isNone_none, List.getD_cons_zero, List.getD_cons_succ, I.at, atL, atO, atP, evp, evs, retV, ↓reduceIte, Nat.reduceEqDiff, reduceCtorEq, AS, t0, t3, t6, hG.rl.Xlen]
    refine loop_of (fun t w' => t 0 = rows ∧ t 3 = gs ∧ w' = w3 ∧ ∃ i : Nat, t 8 = .int .i64 (i : Int) ∧ i ≤ hs.length) (fun t _ => hs.length - (toI (t 8)).toNat) ⟨by simp only [WS, List.getElem_cons_zero, List.getElem_cons_succ, Option.isNone_some, Option.isNone_none, List.getD_cons_zero, List.getD_cons_succ, I.at, atL, atO, atP, evp, evs, retV, ↓reduceIte, Nat.reduceEqDiff, reduceCtorEq]; exact t0, by simp only [WS, List.getElem_cons_zero, List.getElem_cons_succ, Option.isNone_some, Option.isNone_none, List.getD_cons_zero, List.getD_cons_succ, I.at, atL, atO, atP, evp, evs, retV, ↓reduceIte, Nat.reduceEqDiff, reduceCtorEq]; exact t3, rfl, 0, rfl, by omega⟩ ?_
    clear t0 t3 t6
    rintro t w' ⟨t0, t3, rfl, i, t8, hi⟩
    by_cases hil : i < hs.length
    · have e1 := Hj_eq hil
      have iG : i < G.length := by omega
      have e2 : Cell.v G[i] = Gv i := by rw [Hj_eq iG]; exact hGv i hil
      have hH := hG.hr i hil
      have hGi := (hG.gr i hil).sl
      have hli := hlen i hil
      have hni := hne i hil
      have hdi := hdone i hil
      rw [if_pos hil] at hGi
      simp only [hdi] at hH hGi
      generalize hnl : (R.getD i []).length = n at *
      have ln1 : (List.replicate n (m8 i)).length = n := List.length_replicate
      have ln2 : (List.replicate n (m8 i) ++ List.replicate 70 (m8 i)).length = n + 70 := by simp
      simp (maxSteps := 1000000) (disch := omega) only [WS, List.getElem_cons_zero, List.getElem_cons_succ, Option.isNone_some, Option.isNone_none, List.getD_cons_zero, List.getD_cons_succ, I.at, atL, atO, atP, evp, evs, retV, ↓reduceIte, Nat.reduceEqDiff, reduceCtorEq, AS, t0, t3, t8, hG.rl.Xlen]
      refine loop_of (fun t w2 => t 0 = rows ∧ t 3 = gs ∧ t 8 = .int .i64 (i : Int) ∧ w2 = w' ∧ ∃ j : Nat, t 9 = .int .i64 (j : Int) ∧ j ≤ n + 70) (fun t _ => n + 70 - (toI (t 9)).toNat) ⟨by simp only [WS, List.getElem_cons_zero, List.getElem_cons_succ, Option.isNone_some, Option.isNone_none, List.getD_cons_zero, List.getD_cons_succ, I.at, atL, atO, atP, evp, evs, retV, ↓reduceIte, Nat.reduceEqDiff, reduceCtorEq]; exact t0, by simp only [WS, List.getElem_cons_zero, List.getElem_cons_succ, Option.isNone_some, Option.isNone_none, List.getD_cons_zero, List.getD_cons_succ, I.at, atL, atO, atP, evp, evs, retV, ↓reduceIte, Nat.reduceEqDiff, reduceCtorEq]; exact t3, by simp only [WS, List.getElem_cons_zero, List.getElem_cons_succ, Option.isNone_some, Option.isNone_none, List.getD_cons_zero, List.getD_cons_succ, I.at, atL, atO, atP, evp, evs, retV, ↓reduceIte, Nat.reduceEqDiff, reduceCtorEq]; exact t8, rfl, 0, rfl, by omega⟩ ?_
      clear t0 t3 t8
      rintro t w2 ⟨t0, t3, t8, rfl, j, t9, hj⟩
      by_cases hjn : j < n + 70
      · have i2 : j < (List.replicate n (m8 i) ++ List.replicate 70 (m8 i)).length := by omega
        have f1 : IntKind.u8.wrap (i : Int) = ((m8 i).v.toNat : Int) := by rw [wrap_u8 _ (by omega), m8_v _ (by omega)]
        have g1 : decide (((m8 i).v.toNat : Int) = ((m8 i).v.toNat : Int)) = true := decide_eq_true rfl
        have v2 : (List.replicate n (m8 i) ++ List.replicate 70 (m8 i))[j] = m8 i := by
          by_cases hjl : j < n
          · rw [List.getElem_append_left (by omega), List.getElem_replicate]
          · rw [List.getElem_append_right (by rw [List.length_replicate]; omega), List.getElem_replicate]
        by_cases hjl : j < n
        · have i1 : j < (List.replicate n (m8 i)).length := by omega
          have v1 : (List.replicate n (m8 i))[j] = m8 i := by simp
          simp (maxSteps := 1000000) (disch := omega) only [WS, List.getElem_cons_zero, List.getElem_cons_succ, Option.isNone_some, Option.isNone_none, List.getD_cons_zero, List.getD_cons_succ, I.at, atL, atO, atP, evp, evs, retV, ↓reduceIte, Nat.reduceEqDiff, reduceCtorEq, AS, t0, t3, t8, t9, og.sl.Xix iG, og.sl.Xld iG, e2, hGi.Xlen, ln2, hG.rl.Xix hil, hG.rl.Xld hil, e1, hH.Xlen, ln1, hH.Xix i1, hH.Xld i1, v1, cell_e8, f1, g1, hGi.Xix i2, hGi.Xld i2, v2]
          exact ⟨⟨j + 1, rfl, by omega⟩, by omega⟩
        · simp (maxSteps := 1000000) (disch := omega) only [WS, List.getElem_cons_zero, List.getElem_cons_succ, Option.isNone_some, Option.isNone_none, List.getD_cons_zero, List.getD_cons_succ, I.at, atL, atO, atP, evp, evs, retV, ↓reduceIte, Nat.reduceEqDiff, reduceCtorEq, AS, t0, t3, t8, t9, og.sl.Xix iG, og.sl.Xld iG, e2, hGi.Xlen, ln2, hG.rl.Xix hil, hG.rl.Xld hil, e1, hH.Xlen, ln1, cell_e8, f1, g1, hGi.Xix i2, hGi.Xld i2, v2]
          exact ⟨⟨j + 1, rfl, by omega⟩, by omega⟩
      · simp (maxSteps := 1000000) (disch := omega) only [WS, List.getElem_cons_zero, List.getElem_cons_succ, Option.isNone_some, Option.isNone_none, List.getD_cons_zero, List.getD_cons_succ, I.at, atL, atO, atP, evp, evs, retV, ↓reduceIte, Nat.reduceEqDiff, reduceCtorEq, AS, t0, t3, t8, t9, og.sl.Xix iG, og.sl.Xld iG, e2, hGi.Xlen, ln2]
        exact ⟨⟨i + 1, rfl, by omega⟩, by omega⟩
    · simp (maxSteps := 1000000) (disch := omega) only [WS, List.getElem_cons_zero, List.getElem_cons_succ, Option.isNone_some, Option.isNone_none, List.getD_cons_zero, List.getD_cons_succ, I.at, atL, atO, atP, evp, evs, retV, ↓reduceIte, Nat.reduceEqDiff, reduceCtorEq, AS, t0, t3, t8, hG.rl.Xlen]
      exact hG.fr
end Go.Proofs.Ytbaljbadlfopgaa.Fw
