import Derived.Test.YtpmfeaajpjjfiaaProg
import Derived.Test.YtpmfeaajpjjfiaaFwTA
import Derived.Test.YtpmfeaajpjjfiaaSS14oA
import Derived.Test.YtpmfeaajpjjfiaaFwYA
import Derived.Test.YtpmfeaajpjjfiaaSS14beA
import Derived.Test.YtpmfeaajpjjfiaaFwTlA
set_option linter.all false
set_option linter.unusedVariables false
set_option linter.unusedSimpArgs false
set_option maxRecDepth 100000
set_option maxHeartbeats 1000000
namespace Go.Proofs.Ytpmfeaajpjjfiaa.Fw
open Go Go.Fw Go.Proofs
attribute [local irreducible] stepI
end Go.Proofs.Ytpmfeaajpjjfiaa.Fw
namespace Go.Proofs.Ytpmfeaajpjjfiaa.Fw
open Go Go.Fw
end Go.Proofs.Ytpmfeaajpjjfiaa.Fw

set_option linter.unusedVariables false
set_option linter.unusedSimpArgs false
set_option maxRecDepth 100000
set_option maxHeartbeats 1000000
namespace Go.Proofs.Ytpmfeaajpjjfiaa.Fw
open Go Go.Fw Go.Proofs
attribute [local irreducible] stepI
end Go.Proofs.Ytpmfeaajpjjfiaa.Fw
namespace Go.Proofs.Ytpmfeaajpjjfiaa.Fw
open Go Go.Fw
end Go.Proofs.Ytpmfeaajpjjfiaa.Fw

set_option linter.unusedVariables false
set_option linter.unusedSimpArgs false
set_option maxRecDepth 100000
set_option maxHeartbeats 1000000
namespace Go.Proofs.Ytpmfeaajpjjfiaa.Fw
open Go Go.Fw Go.Proofs
attribute [local irreducible] stepI
def c_culletlaw14_laidRows : C := .seq (.ops [⟨0, (some 2), none, .mov (.c (.slice none 0 0)), []⟩]) (.seq (.ops [⟨0, (some 6), none, .mov (.t 0), []⟩, ⟨1, (some 7), none, .len (.t 6), []⟩, ⟨2, (some 8), none, .bin .add (.t 7) (.c (.int .i64 1)), []⟩, ⟨3, (some 9), none, .mks 23 24 [.slice none 0 0] (.t 8) (.t 8), []⟩, ⟨4, (some 3), none, .mov (.t 9), []⟩]) (.seq (.seq (.ops [⟨0, (some 4), none, .mov (.c (.int .i64 0)), []⟩]) (.block 0 (.loop (.seq (.seq (.ops [⟨0, (some 10), none, .mov (.t 4), []⟩, ⟨1, (some 11), none, .mov (.t 0), []⟩, ⟨2, (some 12), none, .len (.t 11), []⟩, ⟨3, (some 13), none, .bin .lss (.t 10) (.t 12), []⟩]) (.ite (.t 13) .skip (.exit 0))) (.seq (.block 1 (.seq (.ops [⟨0, (some 16), none, .bsl 31 0 [.int .u16 0] [], []⟩, ⟨1, (some 17), none, .mov (.t 0), []⟩, ⟨2, (some 18), none, .mov (.t 4), []⟩, ⟨3, (some 19), none, .ixs 1 (.t 17) (.t 18), []⟩, ⟨4, (some 20), none, .ld (.t 19), []⟩, ⟨5, (some 21), none, .app 31 2 [.int .u16 0] (.t 16) (.t 20), []⟩, ⟨6, (some 5), none, .mov (.t 21), []⟩]) (.seq (.ops [⟨0, (some 22), none, .mov (.t 5), []⟩, ⟨1, (some 23), none, .bsl 31 3 [.int .u16 0] [(0, (1, .c (.int .u16 71))), (1, (1, .c (.int .u16 72))), (2, (1, .c (.int .u16 73)))], []⟩, ⟨2, (some 24), none, .app 31 2 [.int .u16 0] (.t 22) (.t 23), []⟩, ⟨3, (some 5), none, .mov (.t 24), []⟩]) (.ops [⟨0, (some 25), none, .mov (.t 3), []⟩, ⟨1, (some 26), none, .mov (.t 4), []⟩, ⟨2, (some 27), none, .mov (.t 5), []⟩, ⟨3, (some 28), none, .mov (.t 0), []⟩, ⟨4, (some 29), none, .mov (.t 4), []⟩, ⟨5, (some 30), none, .ixs 1 (.t 28) (.t 29), []⟩, ⟨6, (some 31), none, .ld (.t 30), []⟩, ⟨7, (some 32), none, .len (.t 31), []⟩, ⟨8, (some 33), none, .slc 1 (.t 27) none (some (.t 32)) none, []⟩, ⟨9, (some 34), none, .ixs 1 (.t 25) (.t 26), []⟩, ⟨10, none, none, .st (.t 34) (.t 33), []⟩])))) (.ops [⟨0, (some 14), none, .mov (.t 4), []⟩, ⟨1, (some 15), none, .bin .add (.t 14) (.c (.int .i64 1)), []⟩, ⟨2, (some 4), none, .mov (.t 15), []⟩])))))) (.seq (.ops [⟨0, (some 35), none, .mov (.t 3), []⟩, ⟨1, (some 36), none, .mov (.t 0), []⟩, ⟨2, (some 37), none, .len (.t 36), []⟩, ⟨3, (some 38), none, .bsl 31 1 [.int .u16 0] [(0, (1, .c (.int .u16 74)))], []⟩, ⟨4, (some 39), none, .ixs 1 (.t 35) (.t 37), []⟩, ⟨5, none, none, .st (.t 39) (.t 38), []⟩]) (.seq (.ops [⟨0, (some 40), none, .mov (.t 3), []⟩, ⟨1, (some 41), none, .mov (.t 0), []⟩, ⟨2, (some 42), none, .len (.t 41), []⟩, ⟨3, (some 43), none, .slc 1 (.t 40) none (some (.t 42)) none, []⟩, ⟨4, (some 2), none, .mov (.t 43), []⟩]) .ret))))
attribute [irreducible] c_culletlaw14_laidRows
theorem run_culletlaw14_laidRows {args : List Value} {w : World} {K : Value → World → Prop} (hn : args.length ≤ 44) (h : WP Try.prog c_culletlaw14_laidRows (endQ [.t 2] K) (initT args) w) : CallV Try.prog 75 args w K :=
  call_of follows Try.func75 (by kernel_rfl) (by kernel_rfl) hn h
end Go.Proofs.Ytpmfeaajpjjfiaa.Fw
namespace Go.Proofs.Ytpmfeaajpjjfiaa.Fw
open Go Go.Fw
/-- Lists handed in as rows: their headers, each with its elements. -/
structure Rin (w : World) (s : Value) (hs : List Hd) (R : Nat → List (El 16)) : Prop where
  sl : Sl w s hs
  row : ∀ i (h : i < hs.length), Sl w (Cell.v hs[i]) (R i)
  len : ∀ i, i < hs.length → (R i).length ≤ 70368744175616
  num : hs.length ≤ 5864062014805
theorem Rin.up {w w' : World} {s : Value} {hs : List Hd} {R : Nat → List (El 16)} (h : Rin w s hs R) (hB : RowKit.Below w.heap.size w w') : Rin w' s hs R := ⟨h.sl.up hB, fun i hi => (h.row i hi).up hB, h.len, h.num⟩
def tl3 : List (El 16) := [⟨71⟩, ⟨72⟩, ⟨73⟩]
theorem tl3_len : tl3.length = 3 := rfl
theorem culletlaw14_laidRows_spec (w : World) (s : Value) (hin : List Hd) (R : Nat → List (El 16)) (h : Rin w s hin R) :
    CallV Try.prog 75 [s] w fun v w' => RowKit.Below w.heap.size w w' ∧ ∃ (hs : List Hd) (h4 : Hd), hs.length = hin.length ∧ Apart v hs ∧ OwT w.heap.size w' v hs [h4] ∧ (∀ i (hi : i < hs.length), OwT w.heap.size w' (Cell.v hs[i]) (R i) tl3) ∧ Ow w.heap.size w' (Cell.v h4) [(⟨74⟩ : El 16)] ∧
      (∀ i (hi : i < hs.length) b, Fw.blk (Cell.v hs[i]) = some b → Fw.blk (Cell.v h4) ≠ some b) ∧ ∀ b, Fw.blk (Cell.v h4) = some b → Fw.blk v ≠ some b := by
  have hnum := h.num
  refine run_culletlaw14_laidRows (by simp) ?_
  simp only [c_culletlaw14_laidRows, WS, List.getElem_cons_zero, List.getElem_cons_succ, Option.isNone_some, Option.isNone_none, List.getD_cons_zero, List.getD_cons_succ, I.at, atL, atO, atP, evp, evs, retV, ↓reduceIte, Nat.reduceEqDiff, reduceCtorEq]
  simp (maxSteps := 1000000) (disch := omega) only [WS, List.getElem_cons_zero, List.getElem_cons_succ, Option.isNone_some, Option.isNone_none, List.getD_cons_zero, List.getD_cons_succ, I.at, atL, atO, atP, evp, evs, retV, ↓reduceIte, Nat.reduceEqDiff, reduceCtorEq, AS, h.sl.Xlen]
  refine X_mks (x := hdn) (by simp only [maxBytes]; omega) (by omega) fun out w1 oo hB1 => ?_
  obtain ⟨ob, hob, hobl⟩ := oo.sl.blk_lt (by intro e; have h := congrArg List.length e; simp at h)
  have obw : w.heap.size ≤ ob := (oo.blk ob hob).1
  simp (maxSteps := 1000000) (disch := omega) only [WS, List.getElem_cons_zero, List.getElem_cons_succ, Option.isNone_some, Option.isNone_none, List.getD_cons_zero, List.getD_cons_succ, I.at, atL, atO, atP, evp, evs, retV, ↓reduceIte, Nat.reduceEqDiff, reduceCtorEq, AS]
  refine loop_of (fun t w' => t 0 = s ∧ t 3 = out ∧ RowKit.Below w.heap.size w w' ∧ w1.heap.size ≤ w'.heap.size ∧ ∃ (i : Nat) (G : List Hd) (E : List (Value × List (El 16))), t 4 = .int .i64 (i : Int) ∧ i ≤ hin.length ∧ Ow w.heap.size w' out G ∧ G.length = hin.length + 1 ∧ Lst w1.heap.size E w' ∧ E.length = i ∧ ∀ j, j < i → ∃ e, E[j]? = some (e, R j ++ tl3) ∧ Hj G j = Fw.sub e 0 (R j).length)
    (fun t _ => hin.length - (toI (t 4)).toNat) ⟨by simp only [WS, List.getElem_cons_zero, List.getElem_cons_succ, Option.isNone_some, Option.isNone_none, List.getD_cons_zero, List.getD_cons_succ, I.at, atL, atO, atP, evp, evs, retV, ↓reduceIte, Nat.reduceEqDiff, reduceCtorEq], by simp only [WS, List.getElem_cons_zero, List.getElem_cons_succ, Option.isNone_some, Option.isNone_none, List.getD_cons_zero, List.getD_cons_succ, I.at, atL, atO, atP, evp, evs, retV, ↓reduceIte, Nat.reduceEqDiff, reduceCtorEq], hB1, Nat.le_refl _, 0, _, [], rfl, by omega, oo, by simp, Lst.nil _ _, rfl, fun j hj => by omega⟩ ?_
  have B1s := hB1.size
  clear oo hB1
  rintro t w2 ⟨t0, t3, B, S, i, G, E, t4, hi, og, lG, hL, lE, hE⟩
  have h2 := h.up B
  by_cases hlt : i < hin.length
  · have iG : i < G.length := by omega
    have hlen := h.len i hlt
    simp (maxSteps := 1000000) (disch := omega) only [WS, List.getElem_cons_zero, List.getElem_cons_succ, Option.isNone_some, Option.isNone_none, List.getD_cons_zero, List.getD_cons_succ, I.at, atL, atO, atP, evp, evs, retV, ↓reduceIte, Nat.reduceEqDiff, reduceCtorEq, AS, t0, t3, t4, h2.sl.Xlen]
    refine X_bsl (zs := ([] : List (El 16))) (by rfl) (by rfl) fun p w3 op hB => ?_
    have h3 := h2.up hB
    simp (maxSteps := 1000000) (disch := omega) only [WS, List.getElem_cons_zero, List.getElem_cons_succ, Option.isNone_some, Option.isNone_none, List.getD_cons_zero, List.getD_cons_succ, I.at, atL, atO, atP, evp, evs, retV, ↓reduceIte, Nat.reduceEqDiff, reduceCtorEq, AS, t0, t3, t4, h3.sl.Xix hlt, h3.sl.Xld hlt]
    refine op.Xapp2 (h3.row i hlt) hB.size (by simp only [List.length_nil, maxBytes]; omega) (by simp only [List.length_nil]; omega) fun q w4 oq hg => ?_
    rw [List.nil_append] at oq
    have D := hg.below hB hB.size fun b hb => (op.blk b hb).1
    clear hg op hB h3
    simp (maxSteps := 1000000) (disch := omega) only [WS, List.getElem_cons_zero, List.getElem_cons_succ, Option.isNone_some, Option.isNone_none, List.getD_cons_zero, List.getD_cons_succ, I.at, atL, atO, atP, evp, evs, retV, ↓reduceIte, Nat.reduceEqDiff, reduceCtorEq, AS, t0, t3, t4]
    refine X_bsl (zs := tl3) (by rfl) (by rfl) fun p3 w5 o3 hB => ?_
    have oq := oq.up hB
    have D := D.trans (hB.mono D.size)
    clear hB
    simp (maxSteps := 1000000) (disch := omega) only [WS, List.getElem_cons_zero, List.getElem_cons_succ, Option.isNone_some, Option.isNone_none, List.getD_cons_zero, List.getD_cons_succ, I.at, atL, atO, atP, evp, evs, retV, ↓reduceIte, Nat.reduceEqDiff, reduceCtorEq, AS, t0, t3, t4]
    refine oq.Xapp2 o3.sl D.size (by simp only [tl3_len, maxBytes]; omega) (by simp only [tl3_len]; omega) fun qq w6 oqq hg => ?_
    have D := hg.below D D.size fun b hb => (oq.blk b hb).1
    clear hg oq o3
    have h6 := h2.up D
    have og := og.up D
    have hL := hL.push D S oqq
    have B := B.trans (D.mono B.size)
    have S := Nat.le_trans S D.size
    have hle : (R i).length ≤ (R i ++ tl3).length := by simp
    have hsub := (oqq.sub0 hle).sl.hd.1
    simp (maxSteps := 1000000) (disch := omega) only [WS, List.getElem_cons_zero, List.getElem_cons_succ, Option.isNone_some, Option.isNone_none, List.getD_cons_zero, List.getD_cons_succ, I.at, atL, atO, atP, evp, evs, retV, ↓reduceIte, Nat.reduceEqDiff, reduceCtorEq, AS, t0, t3, t4, h6.sl.Xix hlt, h6.sl.Xld hlt, (h6.row i hlt).Xlen, oqq.sl.XslcHi hle, og.sl.Xix iG]
    rw [← hsub]
    refine og.Xst iG (hd (Fw.sub qq 0 (R i).length)) fun w7 og7 hg7 => ?_
    rw [hob] at hg7
    simp (maxSteps := 1000000) (disch := omega) only [WS, List.getElem_cons_zero, List.getElem_cons_succ, Option.isNone_some, Option.isNone_none, List.getD_cons_zero, List.getD_cons_succ, I.at, atL, atO, atP, evp, evs, retV, ↓reduceIte, Nat.reduceEqDiff, reduceCtorEq, AS, t0, t3, t4]
    refine ⟨⟨B.grown hg7 B.size (fun b hb => by cases hb; exact obw), Nat.le_trans S hg7.size, i + 1, _, _, rfl, by omega, og7, by rw [List.length_set]; exact lG, hL.grown hobl hg7, by rw [List.length_append, lE]; rfl, fun j hj => ?_⟩, by omega⟩
    by_cases hji : j = i
    · subst hji
      refine ⟨qq, by rw [List.getElem?_append_right (by omega), lE, Nat.sub_self]; rfl, ?_⟩
      rw [Hj_set iG, if_pos rfl, hsub]
    · obtain ⟨e, he1, he2⟩ := hE j (by omega)
      exact ⟨e, by rw [List.getElem?_append_left (by omega)]; exact he1, by rw [Hj_set iG, if_neg hji]; exact he2⟩
  · obtain rfl : i = hin.length := by omega
    have iG : hin.length < G.length := by omega
    simp (maxSteps := 1000000) (disch := omega) only [WS, List.getElem_cons_zero, List.getElem_cons_succ, Option.isNone_some, Option.isNone_none, List.getD_cons_zero, List.getD_cons_succ, I.at, atL, atO, atP, evp, evs, retV, ↓reduceIte, Nat.reduceEqDiff, reduceCtorEq, AS, t0, t3, t4, h2.sl.Xlen]
    refine X_bsl (zs := [(⟨74⟩ : El 16)]) (by rfl) (by rfl) fun p w3 op hB => ?_
    have hpd := op.sl.hd.1
    have og := og.up hB
    have hpb : ∀ b, Fw.blk p = some b → w2.heap.size ≤ b := fun b hb => (op.blk b hb).1
    have opm := op.mono B.size
    have eb : ∀ j e l b, E[j]? = some (e, l) → Fw.blk e = some b → w1.heap.size ≤ b ∧ b < w2.heap.size := fun j e l b he hb => (hL.ow j _ he).blk b hb
    have hL := hL.up hB
    have B := B.trans (hB.mono B.size)
    simp (maxSteps := 1000000) (disch := omega) only [WS, List.getElem_cons_zero, List.getElem_cons_succ, Option.isNone_some, Option.isNone_none, List.getD_cons_zero, List.getD_cons_succ, I.at, atL, atO, atP, evp, evs, retV, ↓reduceIte, Nat.reduceEqDiff, reduceCtorEq, AS, t0, t3, t4, (h2.up hB).sl.Xlen, og.sl.Xix iG]
    rw [← hpd]
    refine og.Xst iG (hd p) fun w4 og4 hg => ?_
    rw [hob] at hg
    have B := B.grown hg B.size (fun b hb => by cases hb; exact obw)
    have h4 := h.up B
    have hle : hin.length ≤ (G.set hin.length (hd p)).length := by rw [List.length_set]; omega
    rw [take_set lG] at og4 hle
    have hT : OwT w.heap.size w4 (Fw.sub out 0 hin.length) (G.take hin.length) [hd p] := by
      have := OwT.of og4 (by simp)
      rwa [List.length_take, Nat.min_eq_left (by omega)] at this
    simp (maxSteps := 1000000) (disch := omega) only [WS, List.getElem_cons_zero, List.getElem_cons_succ, Option.isNone_some, Option.isNone_none, List.getD_cons_zero, List.getD_cons_succ, I.at, atL, atO, atP, evp, evs, retV, ↓reduceIte, Nat.reduceEqDiff, reduceCtorEq, AS, t0, t3, t4, h4.sl.Xlen, og4.sl.XslcHi hle]
    have lT : (G.take hin.length).length = hin.length := by rw [List.length_take]; omega
    have gT : ∀ j (hj : j < (G.take hin.length).length), ∃ e, E[j]? = some (e, R j ++ tl3) ∧ Cell.v (G.take hin.length)[j] = Fw.sub e 0 (R j).length := fun j hj => by
      obtain ⟨e, he1, he2⟩ := hE j (by omega)
      refine ⟨e, he1, ?_⟩
      rw [List.getElem_take, ← Hj_get (hs := G) (by omega)]
      exact he2
    have hL4 := hL.grown hobl hg
    refine ⟨B, G.take hin.length, hd p, lT, ⟨fun a c ha hc b hac hb1 hb2 => ?_, fun a ha b hb1 hb2 => ?_⟩, hT, fun j hj => ?_, ?_, fun j hj b hb1 hb2 => ?_, fun b hb1 hb2 => ?_⟩
    · obtain ⟨e, he1, he2⟩ := gT a ha
      obtain ⟨f, hf1, hf2⟩ := gT c hc
      rw [he2, sub_blk] at hb1
      rw [hf2, sub_blk] at hb2
      exact hL.ap a c _ _ b he1 hf1 hac hb1 hb2
    · obtain ⟨e, he1, he2⟩ := gT a ha
      rw [he2, sub_blk] at hb1
      rw [sub_blk, hob] at hb2
      cases hb2
      have := (eb a e _ _ he1 hb1).1
      omega
    · obtain ⟨e, he1, he2⟩ := gT j hj
      rw [he2]
      exact (OwT.of (hL4.ow j _ he1) (by simp [tl3])).mono B1s
    · rw [hpd]
      exact opm.grown hg (by intro e; have := hpb ob e; omega)
    · obtain ⟨e, he1, he2⟩ := gT j hj
      rw [he2, sub_blk] at hb1
      rw [hpd] at hb2
      have := (eb j e _ _ he1 hb1).2
      have := hpb b hb2
      omega
    · rw [hpd] at hb1
      rw [sub_blk, hob] at hb2
      cases hb2
      have := hpb ob hb1
      omega
end Go.Proofs.Ytpmfeaajpjjfiaa.Fw
