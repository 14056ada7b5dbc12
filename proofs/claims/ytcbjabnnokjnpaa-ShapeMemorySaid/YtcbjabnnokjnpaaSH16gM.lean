import Derived.Test.YtcbjabnnokjnpaaProg
import Derived.Test.YtcbjabnnokjnpaaFwTM
import Derived.Test.YtcbjabnnokjnpaaSH16fM
import Derived.Test.YtcbjabnnokjnpaaFwSgM
import Derived.Test.YtcbjabnnokjnpaaGfWM
set_option linter.all false
set_option linter.unusedVariables false
set_option linter.unusedSimpArgs false
set_option maxRecDepth 100000
set_option maxHeartbeats 1000000
namespace Go.Proofs.Ytcbjabnnokjnpaa.Fw
open Go Go.Fw Go.Proofs
attribute [local irreducible] stepI
def c_shape_Split : C := .seq (.ops [⟨0, (some 8), none, .mov (.c (.slice none 0 0)), []⟩, ⟨1, (some 9), none, .mov (.c (.int .i64 0)), []⟩]) (.seq (.ops [⟨0, (some 15), none, .mov (.t 0), []⟩, ⟨1, (some 16), none, .mov (.t 1), []⟩, ⟨2, (some 17), none, .mov (.t 2), []⟩, ⟨3, (some 18), none, .mov (.t 3), []⟩, ⟨4, (some 19), none, .len (.t 18), []⟩, ⟨5, (some 20), none, .call (.c (.func (.func 15) #[] #[])) [.t 15, .t 16, .t 17, .t 19], []⟩, ⟨6, (some 14), none, .mov (.t 20), []⟩, ⟨7, (some 21), none, .ext (.t 14) 0, []⟩, ⟨8, (some 22), none, .ext (.t 14) 1, []⟩, ⟨9, (some 10), none, .mov (.t 21), []⟩, ⟨10, (some 11), none, .mov (.t 22), []⟩]) (.seq (.seq (.ops [⟨0, (some 23), none, .mov (.t 11), []⟩, ⟨1, (some 24), none, .bin .neq (.t 23) (.c (.int .i64 0)), []⟩]) (.ite (.t 24) (.seq (.ops [⟨0, (some 25), none, .mov (.t 11), []⟩, ⟨1, (some 8), none, .mov (.c (.slice none 0 0)), []⟩, ⟨2, (some 9), none, .mov (.t 25), []⟩]) .ret) .skip)) (.seq (.seq (.ops [⟨0, (some 26), none, .mov (.t 10), []⟩, ⟨1, (some 27), none, .mov (.t 1), []⟩, ⟨2, (some 28), none, .mov (.t 2), []⟩, ⟨3, (some 29), none, .bin .add (.t 27) (.t 28), []⟩, ⟨4, (some 30), none, .bin .quo (.c (.int .i64 67108864)) (.t 29), []⟩, ⟨5, (some 31), none, .bin .gtr (.t 26) (.t 30), []⟩]) (.ite (.t 31) (.seq (.ops [⟨0, (some 8), none, .mov (.c (.slice none 0 0)), []⟩, ⟨1, (some 9), none, .mov (.c (.int .i64 5)), []⟩]) .ret) .skip)) (.seq (.ops [⟨0, (some 32), none, .mov (.t 1), []⟩, ⟨1, (some 33), none, .mov (.t 2), []⟩, ⟨2, (some 34), none, .bin .add (.t 32) (.t 33), []⟩, ⟨3, (some 35), none, .mks 27 24 [.slice none 0 0] (.t 34) (.t 34), []⟩, ⟨4, (some 12), none, .mov (.t 35), []⟩]) (.seq (.seq (.ops [⟨0, (some 36), none, .mov (.t 12), []⟩, ⟨1, (some 37), none, .len (.t 36), []⟩, ⟨2, (some 38), none, .mov (.c (.int .i64 0)), []⟩]) (.block 0 (.loop (.seq (.ops [⟨0, (some 39), none, .bin .lss (.t 38) (.t 37), []⟩]) (.seq (.ite (.t 39) .skip (.exit 0)) (.seq (.block 1 (.seq (.ops [⟨0, (some 40), none, .mov (.t 38), []⟩, ⟨1, (some 13), none, .mov (.t 40), []⟩]) (.seq (.ops [⟨0, (some 41), none, .mov (.t 12), []⟩, ⟨1, (some 42), none, .mov (.t 13), []⟩, ⟨2, (some 43), none, .mov (.t 10), []⟩, ⟨3, (some 44), none, .mks 5 1 [.int .u8 0] (.t 43) (.t 43), []⟩, ⟨4, (some 45), none, .ixs 1 (.t 41) (.t 42), []⟩, ⟨5, none, none, .st (.t 45) (.t 44), []⟩]) (.seq (.ops [⟨0, (some 46), none, .mov (.t 13), []⟩, ⟨1, (some 47), none, .mov (.t 1), []⟩, ⟨2, (some 48), none, .bin .lss (.t 46) (.t 47), []⟩]) (.ite (.t 48) (.ops [⟨0, (some 49), none, .mov (.t 3), []⟩, ⟨1, (some 50), none, .mov (.t 12), []⟩, ⟨2, (some 51), none, .mov (.t 13), []⟩, ⟨3, (some 52), none, .ixs 1 (.t 50) (.t 51), []⟩, ⟨4, (some 53), none, .ld (.t 52), []⟩, ⟨5, (some 54), none, .mov (.t 3), []⟩, ⟨6, (some 55), none, .cpy 1 (.t 53) (.t 54), []⟩, ⟨7, (some 56), none, .slc 1 (.t 49) (some (.t 55)) none none, []⟩, ⟨8, (some 3), none, .mov (.t 56), []⟩]) .skip))))) (.ops [⟨0, (some 57), none, .bin .add (.t 38) (.c (.int .i64 1)), []⟩, ⟨1, (some 38), none, .mov (.t 57), []⟩]))))))) (.seq (.ops [⟨0, (some 58), none, .mov (.t 12), []⟩, ⟨1, (some 8), none, .mov (.t 58), []⟩, ⟨2, (some 9), none, .mov (.c (.int .i64 0)), []⟩]) .ret))))))
attribute [irreducible] c_shape_Split
theorem run_shape_Split {args : List Value} {w : World} {K : Value → World → Prop} (hn : args.length ≤ 59) (h : WP Try.prog c_shape_Split (endQ [.t 8, .t 9] K) (initT args) w) : CallV Try.prog 12 args w K :=
  call_of follows Try.func12 (by kernel_rfl) (by kernel_rfl) hn h
end Go.Proofs.Ytcbjabnnokjnpaa.Fw
namespace Go.Proofs.Ytcbjabnnokjnpaa.Fw
open Go Go.Fw
/-- Shard j of the data. -/
def shd (D : List (El 8)) (k l j : Nat) : List (El 8) := (List.range l).map fun i => if j < k ∧ j * l + i < D.length then D.getD (j * l + i) 0 else 0
theorem shd_len (D : List (El 8)) (k l j : Nat) : (shd D k l j).length = l := by simp [shd]
theorem shd_co (D : List (El 8)) (k l j i : Nat) (hi : i < l) : (co (shd D k l j)).c i = if j < k ∧ j * l + i < D.length then (co D).c (j * l + i) else 0 := by
  rw [co_get _ (by rw [shd_len]; exact hi)]
  simp [shd]; rfl
theorem list_shd {D m : List (El 8)} {k l j : Nat} (hl : m.length = l) (h : ∀ i, i < l → (co m).c i = if j < k ∧ j * l + i < D.length then (co D).c (j * l + i) else 0) : m = shd D k l j :=
  co_ext (by rw [hl, shd_len]) (Ps.ext fun i => by
    by_cases hi : i < l
    · rw [h i hi, shd_co D k l j i hi]
    · rw [co_dg m i (by omega), co_dg (shd D k l j) i (by rw [shd_len]; omega)])
theorem shd_behind (D : List (El 8)) (k l j : Nat) (h : k ≤ j) : List.replicate l (0 : El 8) = shd D k l j := list_shd (by simp) fun i hi => by rw [co_replicate, if_neg (by omega)]; rfl
theorem shd_copy (D : List (El 8)) (k l j : Nat) (h : j < k) : (D.drop (j * l)).take l ++ (List.replicate l (0 : El 8)).drop (D.drop (j * l)).length = shd D k l j := by
  refine list_shd (by simp only [List.length_append, List.length_take, List.length_drop, List.length_replicate]; omega) fun i hi => ?_
  rw [co_app, List.length_take, List.length_drop]
  by_cases h1 : j * l + i < D.length
  · rw [if_pos (by omega), if_pos ⟨h, h1⟩, co_takeL, if_pos hi, co_drop]
  · rw [if_neg (by omega), if_neg (fun e => h1 e.2), co_drop, co_replicate]; rfl
theorem shape_Split_spec (w : World) (f : Int) (k m : Nat) (s : Value) (D : List (El 8)) (h : Sl w s D) (hp : prm f k m = 0) (hk : k ≤ 40) (hm : m ≤ 40) (hn : 1 ≤ D.length) (hn2 : D.length ≤ 64) :
    CallV Try.prog 12 [.int .i64 f, .int .i64 (k : Int), .int .i64 (m : Int), s] w fun v w' => RowKit.Below w.heap.size w w' ∧ ∃ z hs, v = .tuple #[z, .int .i64 0] ∧ hs.length = k + m ∧ Rg w.heap.size w'.heap.size w' z hs (shd D k (lnS f k D.length)) := by
  obtain ⟨hk1, -, hm1, -⟩ := prm_ok hp
  have hl := lnS_rng (f := f) (k := k) (n := D.length) (by omega) hn
  refine run_shape_Split (by simp) ?_
  simp only [c_shape_Split, WS, List.getElem_cons_zero, List.getElem_cons_succ, Option.isNone_some, Option.isNone_none, List.getD_cons_zero, List.getD_cons_succ, I.at, atL, atO, atP, evp, evs, retV, ↓reduceIte, Nat.reduceEqDiff, reduceCtorEq]
  simp (maxSteps := 1000000) (disch := omega) only [WS, List.getElem_cons_zero, List.getElem_cons_succ, Option.isNone_some, Option.isNone_none, List.getD_cons_zero, List.getD_cons_succ, I.at, atL, atO, atP, evp, evs, retV, ↓reduceIte, Nat.reduceEqDiff, reduceCtorEq, AS, h.Xlen]
  refine X_call0 ((shape_Length_spec w f k m D.length hp hn (by omega)).mono ?_)
  rintro _ w0 ⟨rfl, rfl⟩
  generalize lnS f k D.length = l at *
  have e1 : (67108864 : Int).tdiv ((k + m : Nat) : Int) = ((67108864 / (k + m) : Nat) : Int) := tdiv_nat _ _
  have hq : 66 ≤ 67108864 / (k + m) := (Nat.le_div_iff_mul_le (by omega)).2 (by omega)
  have hq2 : 67108864 / (k + m) ≤ 67108864 := Nat.div_le_self _ _
  generalize 67108864 / (k + m) = q at *
  have hne : (((k + m : Nat) : Int) ≠ 0) = True := eq_true (by omega)
  simp (maxSteps := 1000000) (disch := omega) only [WS, List.getElem_cons_zero, List.getElem_cons_succ, Option.isNone_some, Option.isNone_none, List.getD_cons_zero, List.getD_cons_succ, I.at, atL, atO, atP, evp, evs, retV, ↓reduceIte, Nat.reduceEqDiff, reduceCtorEq, AS, show decide ((0 : Int) = 0) = true from rfl, X_quo, hne, e1, w_nat]
  refine X_mks (x := hdn) (by simp only [maxBytes]; omega) (by omega) fun out w1 oo hB1 => ?_
  obtain ⟨ob, hob, hobl⟩ := oo.sl.blk_lt (by intro e; have h := congrArg List.length e; simp at h; omega)
  have obw : w0.heap.size ≤ ob := (oo.blk ob hob).1
  simp (maxSteps := 1000000) (disch := omega) only [WS, List.getElem_cons_zero, List.getElem_cons_succ, Option.isNone_some, Option.isNone_none, List.getD_cons_zero, List.getD_cons_succ, I.at, atL, atO, atP, evp, evs, retV, ↓reduceIte, Nat.reduceEqDiff, reduceCtorEq, AS, oo.sl.Xlen, show (List.replicate (k + m) hdn).length = k + m from List.length_replicate ..]
  refine loop_of (fun t w' => t 1 = .int .i64 (k : Int) ∧ t 10 = .int .i64 (l : Int) ∧ t 12 = out ∧ t 37 = .int .i64 ((k + m : Nat) : Int) ∧ RowKit.Below w0.heap.size w0 w' ∧ w1.heap.size ≤ w'.heap.size ∧ ∃ (j : Nat) (sd : Value) (G : List Hd) (E : List (Value × List (El 8))), t 38 = .int .i64 (j : Int) ∧ j ≤ k + m ∧ t 3 = sd ∧ Sl w' sd (D.drop (min j k * l)) ∧ (∀ b, Fw.blk sd = some b → b < w0.heap.size ∨ D.drop (min j k * l) = []) ∧ Ow w0.heap.size w' out G ∧ G.length = k + m ∧ Lst w1.heap.size E w' ∧ E.length = j ∧ ∀ i, i < j → ∃ e, E[i]? = some (e, shd D k l i) ∧ Hj G i = e)
    (fun t _ => k + m - (toI (t 38)).toNat) ⟨by simp only [WS, List.getElem_cons_zero, List.getElem_cons_succ, Option.isNone_some, Option.isNone_none, List.getD_cons_zero, List.getD_cons_succ, I.at, atL, atO, atP, evp, evs, retV, ↓reduceIte, Nat.reduceEqDiff, reduceCtorEq], by simp only [WS, List.getElem_cons_zero, List.getElem_cons_succ, Option.isNone_some, Option.isNone_none, List.getD_cons_zero, List.getD_cons_succ, I.at, atL, atO, atP, evp, evs, retV, ↓reduceIte, Nat.reduceEqDiff, reduceCtorEq], by simp only [WS, List.getElem_cons_zero, List.getElem_cons_succ, Option.isNone_some, Option.isNone_none, List.getD_cons_zero, List.getD_cons_succ, I.at, atL, atO, atP, evp, evs, retV, ↓reduceIte, Nat.reduceEqDiff, reduceCtorEq], by simp only [WS, List.getElem_cons_zero, List.getElem_cons_succ, Option.isNone_some, Option.isNone_none, List.getD_cons_zero, List.getD_cons_succ, I.at, atL, atO, atP, evp, evs, retV, ↓reduceIte, Nat.reduceEqDiff, reduceCtorEq], hB1, Nat.le_refl _, 0, s, _, [], rfl, by omega, by simp only [WS, List.getElem_cons_zero, List.getElem_cons_succ, Option.isNone_some, Option.isNone_none, List.getD_cons_zero, List.getD_cons_succ, I.at, atL, atO, atP, evp, evs, retV, ↓reduceIte, Nat.reduceEqDiff, reduceCtorEq], by simpa using h.up hB1, ?_, oo, by simp, Lst.nil _ _, rfl, fun j hj => by omega⟩ ?_
  · intro b hb
    left
    obtain ⟨c, hc, hlt⟩ := h.blk_lt (by rintro rfl; simp at hn)
    rw [hc] at hb; cases hb; exact hlt
  have B1s := hB1.size
  have oob : ∀ b, Fw.blk out = some b → b < w1.heap.size := fun b hb => by rw [hob] at hb; cases hb; exact hobl
  clear oo hB1 h
  rintro t w2 ⟨t1, t10, t12, t37, B, S, j, sd, G, E, t38, hj, t3, hsd, hsb, og, lG, hL, lE, hE⟩
  by_cases hlt : j < k + m
  · have jG : j < G.length := by omega
    simp (maxSteps := 1000000) (disch := omega) only [WS, List.getElem_cons_zero, List.getElem_cons_succ, Option.isNone_some, Option.isNone_none, List.getD_cons_zero, List.getD_cons_succ, I.at, atL, atO, atP, evp, evs, retV, ↓reduceIte, Nat.reduceEqDiff, reduceCtorEq, AS, t1, t3, t10, t12, t37, t38]
    refine X_mks (x := (0 : El 8)) (by simp only [maxBytes]; omega) (by omega) fun p w3 op hB => ?_
    have og := og.up hB
    have hsub := op.sl.hd.1
    have opb : ∀ b, Fw.blk p = some b → w2.heap.size ≤ b := fun b hb => (op.blk b hb).1
    simp (maxSteps := 1000000) (disch := omega) only [WS, List.getElem_cons_zero, List.getElem_cons_succ, Option.isNone_some, Option.isNone_none, List.getD_cons_zero, List.getD_cons_succ, I.at, atL, atO, atP, evp, evs, retV, ↓reduceIte, Nat.reduceEqDiff, reduceCtorEq, AS, t1, t3, t10, t12, t37, t38, og.sl.Xix jG]
    rw [← hsub]
    refine og.Xst jG (hd p) fun w4 og4 hg => ?_
    rw [hob] at hg
    have hpo : Fw.blk p ≠ some ob := fun e => by have := opb ob e; omega
    have op4 := op.grown hg hpo
    have B4 := (B.trans (hB.mono B.size)).grown hg (Nat.le_trans B.size hB.size) fun b hb => by cases hb; exact obw
    have S4 := Nat.le_trans (Nat.le_trans S hB.size) hg.size
    have hset : ∀ i, Hj (G.set j (hd p)) i = if i = j then p else Hj G i := fun i => by rw [Hj_set jG, hsub]
    have jG4 : j < (G.set j (hd p)).length := by rw [List.length_set]; exact jG
    have gj : Cell.v (G.set j (hd p))[j] = p := by rw [List.getElem_set_self, hsub]
    have hsd4 : Sl w4 sd (D.drop (min j k * l)) := (hsd.up hB).grown hg (by
      by_cases hnil : D.drop (min j k * l) = []
      · exact Or.inr hnil
      · left
        intro e
        rcases hsb ob e with h1 | h1
        · omega
        · exact hnil h1)
    by_cases hjk : j < k
    · have hmin : min j k = j := by omega
      rw [hmin] at hsd4 hsb
      simp (maxSteps := 1000000) (disch := omega) only [WS, List.getElem_cons_zero, List.getElem_cons_succ, Option.isNone_some, Option.isNone_none, List.getD_cons_zero, List.getD_cons_succ, I.at, atL, atO, atP, evp, evs, retV, ↓reduceIte, Nat.reduceEqDiff, reduceCtorEq, AS, t1, t3, t10, t12, t37, t38, og4.sl.Xix jG4, og4.sl.Xld jG4, gj]
      refine op4.Xcpy hsd4 fun w5 op5 hg5 => ?_
      rw [List.length_replicate, shd_copy D k l j hjk] at op5
      have lmin : min (D.drop (j * l)).length (List.replicate l (0 : El 8)).length ≤ (D.drop (j * l)).length := Nat.min_le_left _ _
      have hpn : ∀ b, Fw.blk p = some b → w2.heap.size ≤ b := opb
      obtain ⟨pb, hpb, hplt⟩ := op4.sl.blk_lt (by intro e; have h := congrArg List.length e; simp at h; omega)
      have hpw := opb pb hpb
      have hsd5 : Sl w5 sd (D.drop (j * l)) := hsd4.grown hg5 (by
        by_cases hnil : D.drop (j * l) = []
        · exact Or.inr hnil
        · left
          intro e
          rw [hpb] at e
          rcases hsb pb e with h1 | h1
          · omega
          · exact hnil h1)
      have og5 := og4.grown hg5 (by rw [hob, hpb]; intro e; cases e; exact hpo hpb)
      have B5 := B4.grown hg5 B4.size fun b hb => by rw [hpb] at hb; cases hb; omega
      have S5 := Nat.le_trans S4 hg5.size
      have hw25 : Lst w1.heap.size (E ++ [(p, shd D k l j)]) w5 := by
        have h1 : Lst w1.heap.size (E ++ [(p, List.replicate l (0 : El 8))]) w4 := (hL.push hB S op).grown hobl hg
        refine ⟨fun i e he => ?_, fun i i2 e e2 b he he2 hii hb => ?_⟩
        · by_cases hi : i < E.length
          · rw [List.getElem?_append_left hi] at he
            have h2 := h1.ow i e (by rw [List.getElem?_append_left hi]; exact he)
            refine h2.grown hg5 fun e3 => ?_
            have h4 := ((hL.ow i e he).blk pb (e3.trans hpb)).2
            omega
          · have hi2 := (List.getElem?_eq_some_iff.1 he).1
            simp at hi2
            have : i = E.length := by omega
            subst this
            rw [List.getElem?_append_right (Nat.le_refl _), Nat.sub_self] at he
            simp at he
            subst he
            exact op5.mono S
        · have key : ∀ i (e : Value × List (El 8)), (E ++ [(p, shd D k l j)])[i]? = some e → ∃ e' : Value × List (El 8), (E ++ [(p, List.replicate l (0 : El 8))])[i]? = some e' ∧ e'.1 = e.1 := fun i e he => by
            by_cases hi : i < E.length
            · rw [List.getElem?_append_left hi] at he
              exact ⟨e, by rw [List.getElem?_append_left hi]; exact he, rfl⟩
            · have hi2 := (List.getElem?_eq_some_iff.1 he).1
              simp at hi2
              have : i = E.length := by omega
              subst this
              rw [List.getElem?_append_right (Nat.le_refl _), Nat.sub_self] at he
              simp at he
              subst he
              exact ⟨(p, List.replicate l 0), by rw [List.getElem?_append_right (Nat.le_refl _), Nat.sub_self]; rfl, rfl⟩
          obtain ⟨f1, hf1, g1⟩ := key i e he
          obtain ⟨f2, hf2, g2⟩ := key i2 e2 he2
          rw [← g1] at hb
          rw [← g2]
          exact h1.ap i i2 f1 f2 b hf1 hf2 hii hb
      have hsl := hsd5.sub lmin (Nat.le_refl _)
      have hdd : ((D.drop (j * l)).take (D.drop (j * l)).length).drop (min (D.drop (j * l)).length (List.replicate l (0 : El 8)).length) = D.drop (min (j + 1) k * l) := by
        rw [List.take_length, List.drop_drop, show min (j + 1) k = j + 1 by omega, Nat.add_mul, Nat.one_mul, List.length_replicate, List.length_drop]
        by_cases h9 : l ≤ D.length - j * l
        · rw [Nat.min_eq_right h9]
        · rw [Nat.min_eq_left (by omega), List.drop_of_length_le (by omega), List.drop_of_length_le (by omega)]
      rw [hdd] at hsl
      simp (maxSteps := 1000000) (disch := omega) only [WS, List.getElem_cons_zero, List.getElem_cons_succ, Option.isNone_some, Option.isNone_none, List.getD_cons_zero, List.getD_cons_succ, I.at, atL, atO, atP, evp, evs, retV, ↓reduceIte, Nat.reduceEqDiff, reduceCtorEq, AS, t1, t3, t10, t12, t37, t38, hsd5.XslcLo lmin]
      refine ⟨⟨B5, S5, j + 1, _, _, _, rfl, by omega, rfl, hsl, fun b hb => ?_, og5, by rw [List.length_set]; exact lG, hw25, by rw [List.length_append, lE]; rfl, fun i hi => ?_⟩, by omega⟩
      · rw [sub_blk] at hb
        rcases hsb b hb with h1 | h1
        · exact Or.inl h1
        · right
          rw [← hdd, h1]; simp
      · by_cases hij : i = j
        · subst hij
          exact ⟨p, by rw [List.getElem?_append_right (by omega), lE, Nat.sub_self]; rfl, by rw [hset, if_pos rfl]⟩
        · obtain ⟨e, he1, he2⟩ := hE i (by omega)
          exact ⟨e, by rw [List.getElem?_append_left (by omega)]; exact he1, by rw [hset, if_neg hij]; exact he2⟩
    · have hmin : min j k = k := by omega
      have hmin1 : min (j + 1) k = k := by omega
      rw [hmin] at hsd4 hsb
      have hw4 : Lst w1.heap.size (E ++ [(p, shd D k l j)]) w4 := by
        rw [← shd_behind D k l j (by omega)]
        exact (hL.push hB S op).grown hobl hg
      simp (maxSteps := 1000000) (disch := omega) only [WS, List.getElem_cons_zero, List.getElem_cons_succ, Option.isNone_some, Option.isNone_none, List.getD_cons_zero, List.getD_cons_succ, I.at, atL, atO, atP, evp, evs, retV, ↓reduceIte, Nat.reduceEqDiff, reduceCtorEq, AS, t1, t3, t10, t12, t37, t38]
      refine ⟨⟨B4, S4, j + 1, sd, _, _, rfl, by omega, rfl, by rw [hmin1]; exact hsd4, by rw [hmin1]; exact hsb, og4, by rw [List.length_set]; exact lG, hw4, by rw [List.length_append, lE]; rfl, fun i hi => ?_⟩, by omega⟩
      by_cases hij : i = j
      · subst hij
        exact ⟨p, by rw [List.getElem?_append_right (by omega), lE, Nat.sub_self]; rfl, by rw [hset, if_pos rfl]⟩
      · obtain ⟨e, he1, he2⟩ := hE i (by omega)
        exact ⟨e, by rw [List.getElem?_append_left (by omega)]; exact he1, by rw [hset, if_neg hij]; exact he2⟩
  · obtain rfl : j = k + m := by omega
    simp (maxSteps := 1000000) (disch := omega) only [WS, List.getElem_cons_zero, List.getElem_cons_succ, Option.isNone_some, Option.isNone_none, List.getD_cons_zero, List.getD_cons_succ, I.at, atL, atO, atP, evp, evs, retV, ↓reduceIte, Nat.reduceEqDiff, reduceCtorEq, AS, t1, t3, t10, t12, t37, t38]
    exact ⟨B, _, G, rfl, lG, Rg.of og oob hL B1s lG hE⟩
end Go.Proofs.Ytcbjabnnokjnpaa.Fw
