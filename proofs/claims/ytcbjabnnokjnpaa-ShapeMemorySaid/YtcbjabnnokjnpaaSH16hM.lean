import Derived.Test.YtcbjabnnokjnpaaProg
import Derived.Test.YtcbjabnnokjnpaaFwTM
import Derived.Test.YtcbjabnnokjnpaaSH16gM
set_option linter.all false
set_option linter.unusedVariables false
set_option linter.unusedSimpArgs false
set_option maxRecDepth 100000
set_option maxHeartbeats 1000000
namespace Go.Proofs.Ytcbjabnnokjnpaa.Fw
open Go Go.Fw Go.Proofs
attribute [local irreducible] stepI
def c_culletref16_Split : C := .seq (.ops [⟨0, (some 8), none, .mov (.c (.slice none 0 0)), []⟩, ⟨1, (some 9), none, .mov (.c (.int .i64 0)), []⟩]) (.seq (.ops [⟨0, (some 16), none, .mov (.t 0), []⟩, ⟨1, (some 17), none, .mov (.t 1), []⟩, ⟨2, (some 18), none, .mov (.t 2), []⟩, ⟨3, (some 19), none, .mov (.t 3), []⟩, ⟨4, (some 20), none, .len (.t 19), []⟩, ⟨5, (some 21), none, .call (.c (.func (.func 32) #[] #[])) [.t 16, .t 17, .t 18, .t 20], []⟩, ⟨6, (some 15), none, .mov (.t 21), []⟩, ⟨7, (some 22), none, .ext (.t 15) 0, []⟩, ⟨8, (some 23), none, .ext (.t 15) 1, []⟩, ⟨9, (some 10), none, .mov (.t 22), []⟩, ⟨10, (some 11), none, .mov (.t 23), []⟩]) (.seq (.seq (.ops [⟨0, (some 24), none, .mov (.t 11), []⟩, ⟨1, (some 25), none, .bin .neq (.t 24) (.c (.int .i64 0)), []⟩]) (.ite (.t 25) (.seq (.ops [⟨0, (some 26), none, .mov (.t 11), []⟩, ⟨1, (some 8), none, .mov (.c (.slice none 0 0)), []⟩, ⟨2, (some 9), none, .mov (.t 26), []⟩]) .ret) .skip)) (.seq (.seq (.ops [⟨0, (some 27), none, .mov (.t 10), []⟩, ⟨1, (some 28), none, .mov (.t 1), []⟩, ⟨2, (some 29), none, .mov (.t 2), []⟩, ⟨3, (some 30), none, .bin .add (.t 28) (.t 29), []⟩, ⟨4, (some 31), none, .bin .quo (.c (.int .i64 67108864)) (.t 30), []⟩, ⟨5, (some 32), none, .bin .gtr (.t 27) (.t 31), []⟩]) (.ite (.t 32) (.seq (.ops [⟨0, (some 8), none, .mov (.c (.slice none 0 0)), []⟩, ⟨1, (some 9), none, .mov (.c (.int .i64 5)), []⟩]) .ret) .skip)) (.seq (.ops [⟨0, (some 33), none, .mov (.t 1), []⟩, ⟨1, (some 34), none, .mov (.t 2), []⟩, ⟨2, (some 35), none, .bin .add (.t 33) (.t 34), []⟩, ⟨3, (some 36), none, .mks 27 24 [.slice none 0 0] (.t 35) (.t 35), []⟩, ⟨4, (some 12), none, .mov (.t 36), []⟩]) (.seq (.seq (.ops [⟨0, (some 13), none, .mov (.c (.int .i64 0)), []⟩]) (.block 0 (.loop (.seq (.seq (.ops [⟨0, (some 37), none, .mov (.t 13), []⟩, ⟨1, (some 38), none, .mov (.t 1), []⟩, ⟨2, (some 39), none, .mov (.t 2), []⟩, ⟨3, (some 40), none, .bin .add (.t 38) (.t 39), []⟩, ⟨4, (some 41), none, .bin .lss (.t 37) (.t 40), []⟩]) (.ite (.t 41) .skip (.exit 0))) (.seq (.block 1 (.seq (.ops [⟨0, (some 44), none, .mov (.t 12), []⟩, ⟨1, (some 45), none, .mov (.t 13), []⟩, ⟨2, (some 46), none, .mov (.t 10), []⟩, ⟨3, (some 47), none, .mks 5 1 [.int .u8 0] (.t 46) (.t 46), []⟩, ⟨4, (some 48), none, .ixs 1 (.t 44) (.t 45), []⟩, ⟨5, none, none, .st (.t 48) (.t 47), []⟩]) (.seq (.ops [⟨0, (some 14), none, .mov (.c (.int .i64 0)), []⟩]) (.block 2 (.loop (.seq (.seq (.ops [⟨0, (some 49), none, .mov (.t 14), []⟩, ⟨1, (some 50), none, .mov (.t 10), []⟩, ⟨2, (some 51), none, .bin .lss (.t 49) (.t 50), []⟩, ⟨3, (some 52), none, .mov (.t 51), []⟩, ⟨4, (some 53), (some (52, true)), .mov (.t 13), []⟩, ⟨5, (some 54), (some (52, true)), .mov (.t 1), []⟩, ⟨6, (some 55), (some (52, true)), .bin .lss (.t 53) (.t 54), []⟩, ⟨7, (some 56), none, .pick (.t 52) (.t 55) (.c (.bool false)), []⟩, ⟨8, (some 57), none, .mov (.t 56), []⟩, ⟨9, (some 58), (some (57, true)), .mov (.t 13), []⟩, ⟨10, (some 59), (some (57, true)), .mov (.t 10), []⟩, ⟨11, (some 60), (some (57, true)), .bin .mul (.t 58) (.t 59), []⟩, ⟨12, (some 61), (some (57, true)), .mov (.t 14), []⟩, ⟨13, (some 62), (some (57, true)), .bin .add (.t 60) (.t 61), []⟩, ⟨14, (some 63), (some (57, true)), .mov (.t 3), []⟩, ⟨15, (some 64), (some (57, true)), .len (.t 63), []⟩, ⟨16, (some 65), (some (57, true)), .bin .lss (.t 62) (.t 64), []⟩, ⟨17, (some 66), none, .pick (.t 57) (.t 65) (.c (.bool false)), []⟩]) (.ite (.t 66) .skip (.exit 2))) (.seq (.block 3 (.dops [⟨0, (some 69), none, .mov (.t 12), []⟩, ⟨1, (some 70), none, .mov (.t 13), []⟩, ⟨2, (some 71), none, .ixs 1 (.t 69) (.t 70), []⟩, ⟨3, (some 72), none, .ld (.t 71), []⟩, ⟨4, (some 73), none, .mov (.t 14), []⟩, ⟨5, (some 74), none, .mov (.t 3), []⟩, ⟨6, (some 75), none, .mov (.t 13), []⟩, ⟨7, (some 76), none, .mov (.t 10), []⟩, ⟨8, (some 77), none, .bin .mul (.t 75) (.t 76), []⟩, ⟨9, (some 78), none, .mov (.t 14), []⟩, ⟨10, (some 79), none, .bin .add (.t 77) (.t 78), []⟩, ⟨11, (some 80), none, .ixs 1 (.t 74) (.t 79), []⟩, ⟨12, (some 81), none, .ld (.t 80), []⟩, ⟨13, (some 82), none, .ixs 1 (.t 72) (.t 73), []⟩, ⟨14, none, none, .st (.t 82) (.t 81), []⟩])) (.ops [⟨0, (some 67), none, .mov (.t 14), []⟩, ⟨1, (some 68), none, .bin .add (.t 67) (.c (.int .i64 1)), []⟩, ⟨2, (some 14), none, .mov (.t 68), []⟩])))))))) (.ops [⟨0, (some 42), none, .mov (.t 13), []⟩, ⟨1, (some 43), none, .bin .add (.t 42) (.c (.int .i64 1)), []⟩, ⟨2, (some 13), none, .mov (.t 43), []⟩])))))) (.seq (.ops [⟨0, (some 83), none, .mov (.t 12), []⟩, ⟨1, (some 8), none, .mov (.t 83), []⟩, ⟨2, (some 9), none, .mov (.c (.int .i64 0)), []⟩]) .ret))))))
attribute [irreducible] c_culletref16_Split
theorem run_culletref16_Split {args : List Value} {w : World} {K : Value → World → Prop} (hn : args.length ≤ 84) (h : WP Try.prog c_culletref16_Split (endQ [.t 8, .t 9] K) (initT args) w) : CallV Try.prog 21 args w K :=
  call_of follows Try.func21 (by kernel_rfl) (by kernel_rfl) hn h
end Go.Proofs.Ytcbjabnnokjnpaa.Fw
namespace Go.Proofs.Ytcbjabnnokjnpaa.Fw
open Go Go.Fw
theorem culletref16_Split_spec (w : World) (f : Int) (k m : Nat) (s : Value) (D : List (El 8)) (h : Sl w s D) (hp : prm f k m = 0) (hk : k ≤ 40) (hm : m ≤ 40) (hn : 1 ≤ D.length) (hn2 : D.length ≤ 64) :
    CallV Try.prog 21 [.int .i64 f, .int .i64 (k : Int), .int .i64 (m : Int), s] w fun v w' => RowKit.Below w.heap.size w w' ∧ ∃ z hs, v = .tuple #[z, .int .i64 0] ∧ hs.length = k + m ∧ Rg w.heap.size w'.heap.size w' z hs (shd D k (lnS f k D.length)) := by
  obtain ⟨hk1, -, hm1, -⟩ := prm_ok hp
  have hl := lnS_rng (f := f) (k := k) (n := D.length) (by omega) hn
  refine run_culletref16_Split (by simp) ?_
  simp only [c_culletref16_Split, WS, List.getElem_cons_zero, List.getElem_cons_succ, Option.isNone_some, Option.isNone_none, List.getD_cons_zero, List.getD_cons_succ, I.at, atL, atO, atP, evp, evs, retV, ↓reduceIte, Nat.reduceEqDiff, reduceCtorEq]
  simp (maxSteps := 1000000) (disch := omega) only [WS, List.getElem_cons_zero, List.getElem_cons_succ, Option.isNone_some, Option.isNone_none, List.getD_cons_zero, List.getD_cons_succ, I.at, atL, atO, atP, evp, evs, retV, ↓reduceIte, Nat.reduceEqDiff, reduceCtorEq, AS, h.Xlen]
  refine X_call0 ((culletref16_Length_spec w f k m D.length hp hn (by omega)).mono ?_)
  rintro _ w0 ⟨rfl, rfl⟩
  generalize lnS f k D.length = l at *
  have e1 : (67108864 : Int).tdiv ((k + m : Nat) : Int) = ((67108864 / (k + m) : Nat) : Int) := tdiv_nat _ _
  have hq : 66 ≤ 67108864 / (k + m) := (Nat.le_div_iff_mul_le (by omega)).2 (by omega)
  have hq2 : 67108864 / (k + m) ≤ 67108864 := Nat.div_le_self _ _
  generalize 67108864 / (k + m) = q at *
  have hne : (((k + m : Nat) : Int) ≠ 0) = True := eq_true (by omega)
  simp (maxSteps := 1000000) (disch := omega) only [WS, List.getElem_cons_zero, List.getElem_cons_succ, Option.isNone_some, Option.isNone_none, List.getD_cons_zero, List.getD_cons_succ, I.at, atL, atO, atP, evp, evs, retV, ↓reduceIte, Nat.reduceEqDiff, reduceCtorEq, AS, show decide ((0 : Int) = 0) = true from rfl, X_quo, hne, e1, w_nat]
  refine X_mks (x := hdn) (by simp only [maxBytes]; omega) (by omega) fun out w1 oo hB1 => ?_
  obtain ⟨ob, hob, hobl⟩ := oo.sl.blk_lt (by intro e; have h := congrArg List.length e; simp at h; omega)
  have obw : w0.heap.size ≤ ob := (oo.blk ob hob).1
  simp (maxSteps := 1000000) (disch := omega) only [WS, List.getElem_cons_zero, List.getElem_cons_succ, Option.isNone_some, Option.isNone_none, List.getD_cons_zero, List.getD_cons_succ, I.at, atL, atO, atP, evp, evs, retV, ↓reduceIte, Nat.reduceEqDiff, reduceCtorEq, AS]
  refine loop_of (fun t w' => t 1 = .int .i64 (k : Int) ∧ t 2 = .int .i64 (m : Int) ∧ t 3 = s ∧ t 10 = .int .i64 (l : Int) ∧ t 12 = out ∧ RowKit.Below w0.heap.size w0 w' ∧ w1.heap.size ≤ w'.heap.size ∧ ∃ (j : Nat) (G : List Hd) (E : List (Value × List (El 8))), t 13 = .int .i64 (j : Int) ∧ j ≤ k + m ∧ Ow w0.heap.size w' out G ∧ G.length = k + m ∧ Lst w1.heap.size E w' ∧ E.length = j ∧ ∀ i, i < j → ∃ e, E[i]? = some (e, shd D k l i) ∧ Hj G i = e)
    (fun t _ => k + m - (toI (t 13)).toNat) ⟨by simp only [WS, List.getElem_cons_zero, List.getElem_cons_succ, Option.isNone_some, Option.isNone_none, List.getD_cons_zero, List.getD_cons_succ, I.at, atL, atO, atP, evp, evs, retV, ↓reduceIte, Nat.reduceEqDiff, reduceCtorEq], by simp only [WS, List.getElem_cons_zero, List.getElem_cons_succ, Option.isNone_some, Option.isNone_none, List.getD_cons_zero, List.getD_cons_succ, I.at, atL, atO, atP, evp, evs, retV, ↓reduceIte, Nat.reduceEqDiff, reduceCtorEq], by simp only [WS, List.getElem_cons_zero, List.getElem_cons_succ, Option.isNone_some, Option.isNone_none, List.getD_cons_zero, List.getD_cons_succ, I.at, atL, atO, atP, evp, evs, retV, ↓reduceIte, Nat.reduceEqDiff, reduceCtorEq], by simp only [WS, List.getElem_cons_zero, List.getElem_cons_succ, Option.isNone_some, Option.isNone_none, List.getD_cons_zero, List.getD_cons_succ, I.at, atL, atO, atP, evp, evs, retV, ↓reduceIte, Nat.reduceEqDiff, reduceCtorEq], by simp only [WS, List.getElem_cons_zero, List.getElem_cons_succ, Option.isNone_some, Option.isNone_none, List.getD_cons_zero, List.getD_cons_succ, I.at, atL, atO, atP, evp, evs, retV, ↓reduceIte, Nat.reduceEqDiff, reduceCtorEq], hB1, Nat.le_refl _, 0, _, [], rfl, by omega, oo, by simp, Lst.nil _ _, rfl, fun j hj => by omega⟩ ?_
  have B1s := hB1.size
  have oob : ∀ b, Fw.blk out = some b → b < w1.heap.size := fun b hb => by rw [hob] at hb; cases hb; exact hobl
  clear oo hB1
  rintro t w2 ⟨t1, t2, t3, t10, t12, B, S, j, G, E, t13, hj, og, lG, hL, lE, hE⟩
  by_cases hlt : j < k + m
  · have jG : j < G.length := by omega
    have hjl : j * l ≤ 80 * 66 := Nat.mul_le_mul (by omega) (by omega)
    simp (maxSteps := 1000000) (disch := omega) only [WS, List.getElem_cons_zero, List.getElem_cons_succ, Option.isNone_some, Option.isNone_none, List.getD_cons_zero, List.getD_cons_succ, I.at, atL, atO, atP, evp, evs, retV, ↓reduceIte, Nat.reduceEqDiff, reduceCtorEq, AS, t1, t2, t3, t10, t12, t13]
    refine X_mks (x := (0 : El 8)) (by simp only [maxBytes]; omega) (by omega) fun p w3 op hB => ?_
    have og := og.up hB
    have hsub := op.sl.hd.1
    have opb : ∀ b, Fw.blk p = some b → w2.heap.size ≤ b := fun b hb => (op.blk b hb).1
    simp (maxSteps := 1000000) (disch := omega) only [WS, List.getElem_cons_zero, List.getElem_cons_succ, Option.isNone_some, Option.isNone_none, List.getD_cons_zero, List.getD_cons_succ, I.at, atL, atO, atP, evp, evs, retV, ↓reduceIte, Nat.reduceEqDiff, reduceCtorEq, AS, t1, t2, t3, t10, t12, t13, og.sl.Xix jG]
    rw [← hsub]
    refine og.Xst jG (hd p) fun w4 og4 hg => ?_
    rw [hob] at hg
    have hpo : Fw.blk p ≠ some ob := fun e => by have := opb ob e; omega
    have op4 := op.grown hg hpo
    have B4 := (B.trans (hB.mono B.size)).grown hg (Nat.le_trans B.size hB.size) fun b hb => by cases hb; exact obw
    have S4 := Nat.le_trans (Nat.le_trans S hB.size) hg.size
    have hset : ∀ i, Hj (G.set j (hd p)) i = if i = j then p else Hj G i := fun i => by rw [Hj_set jG, hsub]
    have jG4 : j < (G.set j (hd p)).length := by rw [List.length_set]; exact jG
    have gj : Cell.v (G.set j (hd p))[j] = p := by rw [List.getElem_set_self, hsub]
    have lG4 : (G.set j (hd p)).length = k + m := by rw [List.length_set]; exact lG
    have hLu : Lst w1.heap.size E w4 := (hL.up hB).grown hobl hg
    have S02 := B.size
    have S12 := S
    have hLb : ∀ i (e : Value × List (El 8)) b, E[i]? = some e → Fw.blk e.1 = some b → b < w2.heap.size := fun i e b he hb => ((hL.ow i e he).blk b hb).2
    generalize G.set j (hd p) = G2 at *
    clear og hg hL op hB B S
    simp (maxSteps := 1000000) (disch := omega) only [WS, List.getElem_cons_zero, List.getElem_cons_succ, Option.isNone_some, Option.isNone_none, List.getD_cons_zero, List.getD_cons_succ, I.at, atL, atO, atP, evp, evs, retV, ↓reduceIte, Nat.reduceEqDiff, reduceCtorEq, AS, t1, t2, t3, t10, t12, t13]
    refine loop_of (fun t w' => t 1 = .int .i64 (k : Int) ∧ t 2 = .int .i64 (m : Int) ∧ t 3 = s ∧ t 10 = .int .i64 (l : Int) ∧ t 12 = out ∧ t 13 = .int .i64 (j : Int) ∧ RowKit.Below w0.heap.size w0 w' ∧ w4.heap.size ≤ w'.heap.size ∧ ∃ (i : Nat) (r : List (El 8)), t 14 = .int .i64 (i : Int) ∧ i ≤ l ∧ Ow w0.heap.size w' out G2 ∧ Lst w1.heap.size E w' ∧ Ow w2.heap.size w' p r ∧ r.length = l ∧ (∀ x, x < i → j < k ∧ j * l + x < D.length) ∧ ∀ x, x < l → (co r).c x = if x < i then (co D).c (j * l + x) else 0)
      (fun t _ => l - (toI (t 14)).toNat) ⟨by simp only [WS, List.getElem_cons_zero, List.getElem_cons_succ, Option.isNone_some, Option.isNone_none, List.getD_cons_zero, List.getD_cons_succ, I.at, atL, atO, atP, evp, evs, retV, ↓reduceIte, Nat.reduceEqDiff, reduceCtorEq]; exact t1, by simp only [WS, List.getElem_cons_zero, List.getElem_cons_succ, Option.isNone_some, Option.isNone_none, List.getD_cons_zero, List.getD_cons_succ, I.at, atL, atO, atP, evp, evs, retV, ↓reduceIte, Nat.reduceEqDiff, reduceCtorEq]; exact t2, by simp only [WS, List.getElem_cons_zero, List.getElem_cons_succ, Option.isNone_some, Option.isNone_none, List.getD_cons_zero, List.getD_cons_succ, I.at, atL, atO, atP, evp, evs, retV, ↓reduceIte, Nat.reduceEqDiff, reduceCtorEq]; exact t3, by simp only [WS, List.getElem_cons_zero, List.getElem_cons_succ, Option.isNone_some, Option.isNone_none, List.getD_cons_zero, List.getD_cons_succ, I.at, atL, atO, atP, evp, evs, retV, ↓reduceIte, Nat.reduceEqDiff, reduceCtorEq]; exact t10, by simp only [WS, List.getElem_cons_zero, List.getElem_cons_succ, Option.isNone_some, Option.isNone_none, List.getD_cons_zero, List.getD_cons_succ, I.at, atL, atO, atP, evp, evs, retV, ↓reduceIte, Nat.reduceEqDiff, reduceCtorEq]; exact t12, by simp only [WS, List.getElem_cons_zero, List.getElem_cons_succ, Option.isNone_some, Option.isNone_none, List.getD_cons_zero, List.getD_cons_succ, I.at, atL, atO, atP, evp, evs, retV, ↓reduceIte, Nat.reduceEqDiff, reduceCtorEq]; exact t13, B4, Nat.le_refl _, 0, _, rfl, by omega, og4, hLu, op4, by simp, fun x hx => by omega, fun x hx => by rw [if_neg (by omega), co_replicate]; rfl⟩ ?_
    clear B4 og4 hLu op4 t1 t2 t3 t10 t12 t13
    rintro t w5 ⟨t1, t2, t3, t10, t12, t13, B, S5, i, r, t14, hi, og, hL, op, lr, hx1, hx2⟩
    have hs := h.up B
    have hmul : IntKind.i64.wrap ((j : Int) * (l : Int)) = ((j * l : Nat) : Int) := by rw [w_mul _ _ (by omega)]
    generalize hJ : j * l = J at *
    by_cases hgo : i < l ∧ j < k ∧ J + i < D.length
    · obtain ⟨h1, h2, h3⟩ := hgo
      have ir : i < r.length := by omega
      have hd1 := hs.drew
      have ho1 := og.sl.drew
      have op1 := op.drew
      simp (maxSteps := 1000000) (disch := omega) only [WS, List.getElem_cons_zero, List.getElem_cons_succ, Option.isNone_some, Option.isNone_none, List.getD_cons_zero, List.getD_cons_succ, I.at, atL, atO, atP, evp, evs, retV, ↓reduceIte, Nat.reduceEqDiff, reduceCtorEq, AS, t1, t2, t3, t10, t12, t13, t14, hmul, hs.Xlen]
      refine WP_dops ?_
      simp (maxSteps := 1000000) (disch := omega) only [ES, List.mem_cons, List.not_mem_nil, implies_true, forall_const, WS, List.getElem_cons_zero, List.getElem_cons_succ, Option.isNone_some, Option.isNone_none, List.getD_cons_zero, List.getD_cons_succ, I.at, atL, atO, atP, evp, evs, retV, ↓reduceIte, Nat.reduceEqDiff, reduceCtorEq, AS, t1, t2, t3, t10, t12, t13, t14, hmul, ho1.Eix jG4, ho1.Eld jG4, gj, hd1.Eix h3, hd1.Eld h3, cell_e8, op1.sl.Eix ir]
      refine Ow.Est op1 ir D[J + i] fun w6 op6 hg6 => ?_
      have hg6 := grown_of_drew hg6
      obtain ⟨pb, hpb, -⟩ := op.sl.blk_lt (by rintro rfl; simp at lr; omega)
      rw [hpb] at hg6
      have hpw := opb pb hpb
      simp (maxSteps := 1000000) (disch := omega) only [ES, List.mem_cons, List.not_mem_nil, implies_true, forall_const, WS, List.getElem_cons_zero, List.getElem_cons_succ, Option.isNone_some, Option.isNone_none, List.getD_cons_zero, List.getD_cons_succ, I.at, atL, atO, atP, evp, evs, retV, ↓reduceIte, Nat.reduceEqDiff, reduceCtorEq, AS, t1, t2, t3, t10, t12, t13, t14]
      refine ⟨⟨B.grown hg6 B.size (fun b hb => by cases hb; omega), Nat.le_trans S5 hg6.size, i + 1, _, rfl, by omega, og.grown hg6 (by rw [hob]; intro e; cases e; exact hpo hpb), ⟨fun y e he => (hL.ow y e he).grown hg6 (fun e2 => by have := hLb y e pb he e2; omega), hL.ap⟩, op6, by rw [List.length_set]; exact lr, fun x hx => ?_, fun x hx => ?_⟩, by omega⟩
      · by_cases hxi : x = i
        · subst hxi; exact ⟨h2, h3⟩
        · exact hx1 x (by omega)
      · rw [co_set _ ir]
        by_cases hxi : x = i
        · subst hxi; rw [if_pos rfl, if_pos (by omega), co_get D h3]
        · rw [if_neg hxi, hx2 x hx]
          by_cases hlt2 : x < i
          · rw [if_pos hlt2, if_pos (by omega)]
          · rw [if_neg hlt2, if_neg (by omega)]
    · have hr : r = shd D k l j := list_shd lr fun x hx => by
        rw [hJ, hx2 x hx]
        by_cases hxi : x < i
        · rw [if_pos hxi, if_pos (hx1 x hxi)]
        · rw [if_neg hxi, if_neg (fun e => hgo ⟨by omega, e.1, by omega⟩)]
      have hpE : Lst w1.heap.size (E ++ [(p, shd D k l j)]) w5 := by
        refine hL.app (Lst.one (hr ▸ op.mono (by omega))) fun e he f hf b hb hb2 => ?_
        simp at hf
        subst hf
        obtain ⟨y, hy⟩ := List.mem_iff_getElem?.1 he
        have := hLb y e b hy hb
        have := opb b hb2
        omega
      have fin : ∀ (i : Nat), i < j + 1 → ∃ e, (E ++ [(p, shd D k l j)])[i]? = some (e, shd D k l i) ∧ Hj G2 i = e := fun i hi => by
        by_cases hij : i = j
        · subst hij
          exact ⟨p, by rw [List.getElem?_append_right (by omega), lE, Nat.sub_self]; rfl, by rw [hset, if_pos rfl]⟩
        · obtain ⟨e, he1, he2⟩ := hE i (by omega)
          exact ⟨e, by rw [List.getElem?_append_left (by omega)]; exact he1, by rw [hset, if_neg hij]; exact he2⟩
      have done : RowKit.Below w0.heap.size w0 w5 ∧ w1.heap.size ≤ w5.heap.size := ⟨B, by omega⟩
      by_cases h1 : i < l
      · by_cases h2 : j < k
        · have h3 : ¬ J + i < D.length := fun h3 => hgo ⟨h1, h2, h3⟩
          simp (maxSteps := 1000000) (disch := omega) only [WS, List.getElem_cons_zero, List.getElem_cons_succ, Option.isNone_some, Option.isNone_none, List.getD_cons_zero, List.getD_cons_succ, I.at, atL, atO, atP, evp, evs, retV, ↓reduceIte, Nat.reduceEqDiff, reduceCtorEq, AS, t1, t2, t3, t10, t12, t13, t14, hmul, hs.Xlen]
          exact ⟨⟨done.1, done.2, j + 1, _, _, rfl, by omega, og, lG4, hpE, by rw [List.length_append, lE]; rfl, fin⟩, by omega⟩
        · simp (maxSteps := 1000000) (disch := omega) only [WS, List.getElem_cons_zero, List.getElem_cons_succ, Option.isNone_some, Option.isNone_none, List.getD_cons_zero, List.getD_cons_succ, I.at, atL, atO, atP, evp, evs, retV, ↓reduceIte, Nat.reduceEqDiff, reduceCtorEq, AS, t1, t2, t3, t10, t12, t13, t14, hmul, hs.Xlen]
          exact ⟨⟨done.1, done.2, j + 1, _, _, rfl, by omega, og, lG4, hpE, by rw [List.length_append, lE]; rfl, fin⟩, by omega⟩
      · simp (maxSteps := 1000000) (disch := omega) only [WS, List.getElem_cons_zero, List.getElem_cons_succ, Option.isNone_some, Option.isNone_none, List.getD_cons_zero, List.getD_cons_succ, I.at, atL, atO, atP, evp, evs, retV, ↓reduceIte, Nat.reduceEqDiff, reduceCtorEq, AS, t1, t2, t3, t10, t12, t13, t14, hmul, hs.Xlen]
        exact ⟨⟨done.1, done.2, j + 1, _, _, rfl, by omega, og, lG4, hpE, by rw [List.length_append, lE]; rfl, fin⟩, by omega⟩
  · obtain rfl : j = k + m := by omega
    simp (maxSteps := 1000000) (disch := omega) only [WS, List.getElem_cons_zero, List.getElem_cons_succ, Option.isNone_some, Option.isNone_none, List.getD_cons_zero, List.getD_cons_succ, I.at, atL, atO, atP, evp, evs, retV, ↓reduceIte, Nat.reduceEqDiff, reduceCtorEq, AS, t1, t2, t3, t10, t12, t13]
    exact ⟨B, _, G, rfl, lG, Rg.of og oob hL B1s lG hE⟩
end Go.Proofs.Ytcbjabnnokjnpaa.Fw
