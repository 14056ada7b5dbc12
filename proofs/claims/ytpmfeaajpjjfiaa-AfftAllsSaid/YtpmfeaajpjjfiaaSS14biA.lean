import Derived.Test.YtpmfeaajpjjfiaaProg
import Derived.Test.YtpmfeaajpjjfiaaFwTA
import Derived.Test.YtpmfeaajpjjfiaaSS14bfA
set_option linter.all false
set_option linter.unusedVariables false
set_option linter.unusedSimpArgs false
set_option maxRecDepth 100000
set_option maxHeartbeats 1000000
namespace Go.Proofs.Ytpmfeaajpjjfiaa.Fw
open Go Go.Fw Go.Proofs
attribute [local irreducible] stepI
def c_culletref14_Rows : C := .seq (.ops [⟨0, (some 6), none, .mov (.c (.slice none 0 0)), []⟩, ⟨1, (some 7), none, .mov (.c (.int .i64 0)), []⟩]) (.seq (.ops [⟨0, (some 16), none, .mov (.t 0), []⟩, ⟨1, (some 17), none, .len (.t 16), []⟩, ⟨2, (some 18), none, .mks 23 24 [.slice none 0 0] (.t 17) (.t 17), []⟩, ⟨3, (some 8), none, .mov (.t 18), []⟩]) (.seq (.seq (.ops [⟨0, (some 9), none, .mov (.c (.int .i64 0)), []⟩]) (.block 0 (.loop (.seq (.seq (.ops [⟨0, (some 19), none, .mov (.t 9), []⟩, ⟨1, (some 20), none, .mov (.t 0), []⟩, ⟨2, (some 21), none, .len (.t 20), []⟩, ⟨3, (some 22), none, .bin .lss (.t 19) (.t 21), []⟩]) (.ite (.t 22) .skip (.exit 0))) (.seq (.block 1 (.ops [⟨0, (some 25), none, .mov (.t 8), []⟩, ⟨1, (some 26), none, .mov (.t 9), []⟩, ⟨2, (some 27), none, .bsl 31 0 [.int .u16 0] [], []⟩, ⟨3, (some 28), none, .mov (.t 0), []⟩, ⟨4, (some 29), none, .mov (.t 9), []⟩, ⟨5, (some 30), none, .ixs 1 (.t 28) (.t 29), []⟩, ⟨6, (some 31), none, .ld (.t 30), []⟩, ⟨7, (some 32), none, .app 31 2 [.int .u16 0] (.t 27) (.t 31), []⟩, ⟨8, (some 33), none, .ixs 1 (.t 25) (.t 26), []⟩, ⟨9, none, none, .st (.t 33) (.t 32), []⟩])) (.ops [⟨0, (some 23), none, .mov (.t 9), []⟩, ⟨1, (some 24), none, .bin .add (.t 23) (.c (.int .i64 1)), []⟩, ⟨2, (some 9), none, .mov (.t 24), []⟩])))))) (.seq (.seq (.ops [⟨0, (some 34), none, .mov (.t 0), []⟩, ⟨1, (some 35), none, .len (.t 34), []⟩, ⟨2, (some 36), none, .call (.c (.func (.func 70) #[] #[])) [.t 35], []⟩, ⟨3, (some 37), none, .un .not (.t 36), []⟩]) (.ite (.t 37) (.seq (.ops [⟨0, (some 38), none, .mov (.t 8), []⟩, ⟨1, (some 6), none, .mov (.t 38), []⟩, ⟨2, (some 7), none, .mov (.c (.int .i64 130)), []⟩]) .ret) .skip)) (.seq (.seq (.ops [⟨0, (some 10), none, .mov (.c (.int .i64 0)), []⟩]) (.block 2 (.loop (.seq (.seq (.ops [⟨0, (some 39), none, .mov (.t 10), []⟩, ⟨1, (some 40), none, .mov (.t 0), []⟩, ⟨2, (some 41), none, .len (.t 40), []⟩, ⟨3, (some 42), none, .bin .lss (.t 39) (.t 41), []⟩]) (.ite (.t 42) .skip (.exit 2))) (.seq (.block 3 (.seq (.dops [⟨0, (some 45), none, .mov (.t 0), []⟩, ⟨1, (some 46), none, .mov (.t 10), []⟩, ⟨2, (some 47), none, .ixs 1 (.t 45) (.t 46), []⟩, ⟨3, (some 48), none, .ld (.t 47), []⟩, ⟨4, (some 49), none, .len (.t 48), []⟩, ⟨5, (some 50), none, .mov (.t 0), []⟩, ⟨6, (some 51), none, .ixs 1 (.t 50) (.c (.int .i64 0)), []⟩, ⟨7, (some 52), none, .ld (.t 51), []⟩, ⟨8, (some 53), none, .len (.t 52), []⟩, ⟨9, (some 54), none, .bin .neq (.t 49) (.t 53), []⟩]) (.ite (.t 54) (.seq (.ops [⟨0, (some 55), none, .mov (.t 8), []⟩, ⟨1, (some 6), none, .mov (.t 55), []⟩, ⟨2, (some 7), none, .mov (.c (.int .i64 6)), []⟩]) .ret) .skip))) (.ops [⟨0, (some 43), none, .mov (.t 10), []⟩, ⟨1, (some 44), none, .bin .add (.t 43) (.c (.int .i64 1)), []⟩, ⟨2, (some 10), none, .mov (.t 44), []⟩])))))) (.seq (.seq (.ops [⟨0, (some 56), none, .mov (.t 1), []⟩, ⟨1, (some 57), none, .mov (.t 0), []⟩, ⟨2, (some 58), none, .len (.t 57), []⟩, ⟨3, (some 59), none, .mov (.t 0), []⟩, ⟨4, (some 60), none, .len (.t 59), []⟩, ⟨5, (some 61), none, .call (.c (.func (.func 71) #[] #[])) [.t 56, .t 58, .t 60], []⟩, ⟨6, (some 62), none, .un .not (.t 61), []⟩]) (.ite (.t 62) (.seq (.ops [⟨0, (some 63), none, .mov (.t 8), []⟩, ⟨1, (some 6), none, .mov (.t 63), []⟩, ⟨2, (some 7), none, .mov (.c (.int .i64 140)), []⟩]) .ret) .skip)) (.seq (.ops [⟨0, (some 64), none, .call (.c (.func (.func 73) #[] #[])) [], []⟩, ⟨1, (some 11), none, .mov (.t 64), []⟩]) (.seq (.seq (.ops [⟨0, (some 12), none, .mov (.c (.int .i64 0)), []⟩]) (.block 4 (.loop (.seq (.seq (.ops [⟨0, (some 65), none, .mov (.t 12), []⟩, ⟨1, (some 66), none, .mov (.t 0), []⟩, ⟨2, (some 67), none, .ixs 1 (.t 66) (.c (.int .i64 0)), []⟩, ⟨3, (some 68), none, .ld (.t 67), []⟩, ⟨4, (some 69), none, .len (.t 68), []⟩, ⟨5, (some 70), none, .bin .lss (.t 65) (.t 69), []⟩]) (.ite (.t 70) .skip (.exit 4))) (.seq (.block 5 (.seq (.ops [⟨0, (some 73), none, .mov (.t 0), []⟩, ⟨1, (some 74), none, .len (.t 73), []⟩, ⟨2, (some 75), none, .mks 31 2 [.int .u16 0] (.t 74) (.t 74), []⟩, ⟨3, (some 13), none, .mov (.t 75), []⟩]) (.seq (.seq (.ops [⟨0, (some 14), none, .mov (.c (.int .i64 0)), []⟩]) (.block 6 (.loop (.seq (.seq (.ops [⟨0, (some 76), none, .mov (.t 14), []⟩, ⟨1, (some 77), none, .mov (.t 0), []⟩, ⟨2, (some 78), none, .len (.t 77), []⟩, ⟨3, (some 79), none, .bin .lss (.t 76) (.t 78), []⟩]) (.ite (.t 79) .skip (.exit 6))) (.seq (.block 7 (.ops [⟨0, (some 82), none, .mov (.t 13), []⟩, ⟨1, (some 83), none, .mov (.t 14), []⟩, ⟨2, (some 84), none, .mov (.t 0), []⟩, ⟨3, (some 85), none, .mov (.t 14), []⟩, ⟨4, (some 86), none, .ixs 1 (.t 84) (.t 85), []⟩, ⟨5, (some 87), none, .ld (.t 86), []⟩, ⟨6, (some 88), none, .mov (.t 12), []⟩, ⟨7, (some 89), none, .ixs 1 (.t 87) (.t 88), []⟩, ⟨8, (some 90), none, .ld (.t 89), []⟩, ⟨9, (some 91), none, .ixs 1 (.t 82) (.t 83), []⟩, ⟨10, none, none, .st (.t 91) (.t 90), []⟩])) (.ops [⟨0, (some 80), none, .mov (.t 14), []⟩, ⟨1, (some 81), none, .bin .add (.t 80) (.c (.int .i64 1)), []⟩, ⟨2, (some 14), none, .mov (.t 81), []⟩])))))) (.seq (.seq (.ops [⟨0, (some 92), none, .mov (.t 2), []⟩]) (.ite (.t 92) (.ops [⟨0, (some 93), none, .mov (.t 13), []⟩, ⟨1, (some 94), none, .mov (.t 1), []⟩, ⟨2, (some 95), none, .mov (.t 11), []⟩, ⟨3, (some 96), none, .call (.c (.func (.func 74) #[] #[])) [.t 93, .t 94, .t 95], []⟩, ⟨4, (some 13), none, .mov (.t 96), []⟩]) (.ops [⟨0, (some 97), none, .mov (.t 13), []⟩, ⟨1, (some 98), none, .mov (.t 1), []⟩, ⟨2, (some 99), none, .mov (.t 11), []⟩, ⟨3, (some 100), none, .call (.c (.func (.func 72) #[] #[])) [.t 97, .t 98, .t 99], []⟩, ⟨4, (some 13), none, .mov (.t 100), []⟩]))) (.seq (.ops [⟨0, (some 15), none, .mov (.c (.int .i64 0)), []⟩]) (.block 8 (.loop (.seq (.seq (.ops [⟨0, (some 101), none, .mov (.t 15), []⟩, ⟨1, (some 102), none, .mov (.t 0), []⟩, ⟨2, (some 103), none, .len (.t 102), []⟩, ⟨3, (some 104), none, .bin .lss (.t 101) (.t 103), []⟩]) (.ite (.t 104) .skip (.exit 8))) (.seq (.block 9 (.dops [⟨0, (some 107), none, .mov (.t 8), []⟩, ⟨1, (some 108), none, .mov (.t 15), []⟩, ⟨2, (some 109), none, .ixs 1 (.t 107) (.t 108), []⟩, ⟨3, (some 110), none, .ld (.t 109), []⟩, ⟨4, (some 111), none, .mov (.t 12), []⟩, ⟨5, (some 112), none, .mov (.t 13), []⟩, ⟨6, (some 113), none, .mov (.t 15), []⟩, ⟨7, (some 114), none, .ixs 1 (.t 112) (.t 113), []⟩, ⟨8, (some 115), none, .ld (.t 114), []⟩, ⟨9, (some 116), none, .ixs 1 (.t 110) (.t 111), []⟩, ⟨10, none, none, .st (.t 116) (.t 115), []⟩])) (.ops [⟨0, (some 105), none, .mov (.t 15), []⟩, ⟨1, (some 106), none, .bin .add (.t 105) (.c (.int .i64 1)), []⟩, ⟨2, (some 15), none, .mov (.t 106), []⟩])))))))))) (.ops [⟨0, (some 71), none, .mov (.t 12), []⟩, ⟨1, (some 72), none, .bin .add (.t 71) (.c (.int .i64 1)), []⟩, ⟨2, (some 12), none, .mov (.t 72), []⟩])))))) (.seq (.ops [⟨0, (some 117), none, .mov (.t 8), []⟩, ⟨1, (some 6), none, .mov (.t 117), []⟩, ⟨2, (some 7), none, .mov (.c (.int .i64 0)), []⟩]) .ret))))))))
attribute [irreducible] c_culletref14_Rows
theorem run_culletref14_Rows {args : List Value} {w : World} {K : Value → World → Prop} (hn : args.length ≤ 118) (h : WP Try.prog c_culletref14_Rows (endQ [.t 6, .t 7] K) (initT args) w) : CallV Try.prog 76 args w K :=
  call_of follows Try.func76 (by kernel_rfl) (by kernel_rfl) hn h
end Go.Proofs.Ytpmfeaajpjjfiaa.Fw
namespace Go.Proofs.Ytpmfeaajpjjfiaa.Fw
open Go Go.Fw
def RL (R : Nat → List (El 16)) (n : Nat) : List (List (El 16)) := (List.range n).map R
theorem RL_get {R : Nat → List (El 16)} {n i : Nat} (h : i < n) : (RL R n).getD i [] = R i := by
  unfold RL
  rw [List.getD_eq_getElem?_getD, List.getElem?_map, List.getElem?_range h]; rfl
theorem RL_len (R : Nat → List (El 16)) (n : Nat) : (RL R n).length = n := by simp [RL]
theorem culletref03_Elements_spec2 (w : World) : CallV Try.prog 73 [] w fun v w' => ∃ WL, Wls w' v WL ∧ (∀ b, Fw.blk v = some b → w.heap.size ≤ b) ∧ RowKit.Below w.heap.size w w' := by
  refine run_culletref03_Elements (by simp) ?_
  simp only [c_culletref03_Elements, WS, List.getElem_cons_zero, List.getElem_cons_succ, Option.isNone_some, Option.isNone_none, List.getD_cons_zero, List.getD_cons_succ, I.at, atL, atO, atP, evp, evs, retV, ↓reduceIte, Nat.reduceEqDiff, reduceCtorEq]
  have hok := wls_ok
  have hsp := culletref03_ElementsTo_spec w 16 (by omega)
  generalize wls (2 ^ 16) = WL at hok hsp
  refine X_call0 (hsp.mono ?_)
  rintro v w' ⟨o, hB⟩
  simp (maxSteps := 1000000) (disch := omega) only [WS, List.getElem_cons_zero, List.getElem_cons_succ, Option.isNone_some, Option.isNone_none, List.getD_cons_zero, List.getD_cons_succ, I.at, atL, atO, atP, evp, evs, retV, ↓reduceIte, Nat.reduceEqDiff, reduceCtorEq, AS]
  exact ⟨WL, ⟨o.sl, hok.1, hok.2⟩, fun b hb => (o.blk b hb).1, hB⟩
theorem itF_zero (a k : Nat) (x : Nat) : itF a k (fun _ => 0) x = 0 := by
  have h := itF_lin a 1 k (fun _ => 0) (fun _ => 0)
  have e : (fun i : Nat => (0 : El 16) + 1 * 0) = fun _ => 0 := by funext i; rw [El.mul_zero, El.add_zero]
  rw [e] at h
  have h2 := congrFun h x
  simp only [El.one_mul, El.add_self] at h2
  exact h2
theorem itI_zero (a k : Nat) (x : Nat) : itI a k (fun _ => 0) x = 0 := by
  have h := itI_lin a 1 k (fun _ => 0) (fun _ => 0)
  have e : (fun i : Nat => (0 : El 16) + 1 * 0) = fun _ => 0 := by funext i; rw [El.mul_zero, El.add_zero]
  rw [e] at h
  have h2 := congrFun h x
  simp only [El.one_mul, El.add_self] at h2
  exact h2
/-- The answer of Rows: rows in new memory. -/
structure Ans (w w' : World) (v : Value) (hs : List Hd) (V : Nat → List (El 16)) : Prop where
  sl : Sl w' v hs
  row : ∀ i (h : i < hs.length), Sl w' (Cell.v hs[i]) (V i)
  nb : ∀ i (h : i < hs.length) b, Fw.blk (Cell.v hs[i]) = some b → w.heap.size ≤ b
  vb : ∀ b, Fw.blk v = some b → w.heap.size ≤ b
theorem Ans.up {w w' w2 : World} {v : Value} {hs : List Hd} {V : Nat → List (El 16)} (h : Ans w w' v hs V) (hB : RowKit.Below w'.heap.size w' w2) : Ans w w2 v hs V := ⟨h.sl.up hB, fun i hi => (h.row i hi).up hB, h.nb, h.vb⟩
theorem Ans.of {w w' : World} {v : Value} {hs : List Hd} {RR : List (List (El 16))} {n : Nat} {F : World → Prop} (h : Rof w.heap.size F v hs RR w') (hn : hs.length = n) (hv : ∀ b, Fw.blk v = some b → w.heap.size ≤ b) : Ans w w' v hs (fun i => RR.getD i []) :=
  ⟨h.2.2.1, fun i hi => (h.2.1 i hi).sl, fun i hi b hb => ((h.2.1 i hi).blk b hb).1, hv⟩
end Go.Proofs.Ytpmfeaajpjjfiaa.Fw

namespace Go.Proofs.Ytpmfeaajpjjfiaa.Fw
open Go Go.Fw
set_option maxHeartbeats 4000000 in
theorem culletref14_RowsF_spec (w : World) (s : Value) (hin : List Hd) (R : Nat → List (El 16)) (a : Int) (h : Rin w s hin R) :
    CallV Try.prog 76 [s, .int .i64 a, .bool false] w fun v w' => RowKit.Below w.heap.size w w' ∧ ∃ (z : Value) (hs : List Hd) (V : Nat → List (El 16)) (e : Int), v = .tuple #[z, .int .i64 e] ∧ hs.length = hin.length ∧ Ans w w' z hs V ∧
      ((∃ k q, k ≤ 16 ∧ hin.length = 2 ^ k ∧ isC a (2 ^ k) (2 ^ k) = true ∧ (∀ i, i < 2 ^ k → (R i).length = q) ∧ e = 0 ∧ (∀ i, i < 2 ^ k → (V i).length = q) ∧ ∀ i c, i < 2 ^ k → (co (V i)).c c = itF a.toNat k (fun i => (co (R i)).c c) i) ∨
       ((∀ i, i < hin.length → V i = R i) ∧ ((isP (hin.length : Int) = false ∧ e = 130) ∨ (isP (hin.length : Int) = true ∧ ¬ (∃ q, ∀ i, i < hin.length → (R i).length = q) ∧ e = 6) ∨ (isP (hin.length : Int) = true ∧ (∃ q, ∀ i, i < hin.length → (R i).length = q) ∧ isC a hin.length hin.length = false ∧ e = 140)))) := by
  have hnum := h.num
  refine run_culletref14_Rows (by simp) ?_
  simp only [c_culletref14_Rows, WS, List.getElem_cons_zero, List.getElem_cons_succ, Option.isNone_some, Option.isNone_none, List.getD_cons_zero, List.getD_cons_succ, I.at, atL, atO, atP, evp, evs, retV, ↓reduceIte, Nat.reduceEqDiff, reduceCtorEq]
  simp (maxSteps := 1000000) (disch := omega) only [WS, List.getElem_cons_zero, List.getElem_cons_succ, Option.isNone_some, Option.isNone_none, List.getD_cons_zero, List.getD_cons_succ, I.at, atL, atO, atP, evp, evs, retV, ↓reduceIte, Nat.reduceEqDiff, reduceCtorEq, AS, h.sl.Xlen]
  refine X_mks (x := hdn) (by simp only [maxBytes]; omega) (by omega) fun out w1 oo hB1 => ?_
  have oob := oo.blk
  have B1s := hB1.size
  simp (maxSteps := 1000000) (disch := omega) only [WS, List.getElem_cons_zero, List.getElem_cons_succ, Option.isNone_some, Option.isNone_none, List.getD_cons_zero, List.getD_cons_succ, I.at, atL, atO, atP, evp, evs, retV, ↓reduceIte, Nat.reduceEqDiff, reduceCtorEq, AS]
  refine loop_of (fun t w' => t 0 = s ∧ t 1 = .int .i64 a ∧ t 2 = .bool false ∧ t 8 = out ∧ RowKit.Below w.heap.size w w' ∧ w1.heap.size ≤ w'.heap.size ∧ ∃ (i : Nat) (G : List Hd) (E : List (Value × List (El 16))), t 9 = .int .i64 (i : Int) ∧ i ≤ hin.length ∧ Ow w.heap.size w' out G ∧ G.length = hin.length ∧ Lst w1.heap.size E w' ∧ E.length = i ∧ ∀ j, j < i → ∃ e, E[j]? = some (e, R j) ∧ Hj G j = e)
    (fun t _ => hin.length - (toI (t 9)).toNat) ⟨by simp only [WS, List.getElem_cons_zero, List.getElem_cons_succ, Option.isNone_some, Option.isNone_none, List.getD_cons_zero, List.getD_cons_succ, I.at, atL, atO, atP, evp, evs, retV, ↓reduceIte, Nat.reduceEqDiff, reduceCtorEq], by simp only [WS, List.getElem_cons_zero, List.getElem_cons_succ, Option.isNone_some, Option.isNone_none, List.getD_cons_zero, List.getD_cons_succ, I.at, atL, atO, atP, evp, evs, retV, ↓reduceIte, Nat.reduceEqDiff, reduceCtorEq], by simp only [WS, List.getElem_cons_zero, List.getElem_cons_succ, Option.isNone_some, Option.isNone_none, List.getD_cons_zero, List.getD_cons_succ, I.at, atL, atO, atP, evp, evs, retV, ↓reduceIte, Nat.reduceEqDiff, reduceCtorEq], by simp only [WS, List.getElem_cons_zero, List.getElem_cons_succ, Option.isNone_some, Option.isNone_none, List.getD_cons_zero, List.getD_cons_succ, I.at, atL, atO, atP, evp, evs, retV, ↓reduceIte, Nat.reduceEqDiff, reduceCtorEq], hB1, Nat.le_refl _, 0, _, [], rfl, by omega, oo, by simp, Lst.nil _ _, rfl, fun j hj => by omega⟩ ?_
  clear oo hB1
  rintro t w2 ⟨t0, t1, t2, t8, B, S, i, G, E, t9, hi, og, lG, hL, lE, hE⟩
  have h2 := h.up B
  by_cases hlt : i < hin.length
  · have iG : i < G.length := by omega
    have hlen := h.len i hlt
    obtain ⟨ob, hob, hoblt⟩ := og.sl.blk_lt (by rintro rfl; simp at lG; omega)
    have obw := (oob ob hob).1
    have hobl := (oob ob hob).2
    simp (maxSteps := 1000000) (disch := omega) only [WS, List.getElem_cons_zero, List.getElem_cons_succ, Option.isNone_some, Option.isNone_none, List.getD_cons_zero, List.getD_cons_succ, I.at, atL, atO, atP, evp, evs, retV, ↓reduceIte, Nat.reduceEqDiff, reduceCtorEq, AS, t0, t1, t2, t8, t9, h2.sl.Xlen]
    refine X_bsl (zs := ([] : List (El 16))) (by rfl) (by rfl) fun p w3 op hB => ?_
    have h3 := h2.up hB
    simp (maxSteps := 1000000) (disch := omega) only [WS, List.getElem_cons_zero, List.getElem_cons_succ, Option.isNone_some, Option.isNone_none, List.getD_cons_zero, List.getD_cons_succ, I.at, atL, atO, atP, evp, evs, retV, ↓reduceIte, Nat.reduceEqDiff, reduceCtorEq, AS, t0, t1, t2, t8, t9, h3.sl.Xix hlt, h3.sl.Xld hlt]
    refine op.Xapp2 (h3.row i hlt) hB.size (by simp only [List.length_nil, maxBytes]; omega) (by simp only [List.length_nil]; omega) fun q w4 oq hg => ?_
    rw [List.nil_append] at oq
    have D := hg.below hB hB.size fun b hb => (op.blk b hb).1
    clear hg op hB h3
    have og := og.up D
    have hL := hL.push D S oq
    have B := B.trans (D.mono B.size)
    have S := Nat.le_trans S D.size
    have hsub := oq.sl.hd.1
    simp (maxSteps := 1000000) (disch := omega) only [WS, List.getElem_cons_zero, List.getElem_cons_succ, Option.isNone_some, Option.isNone_none, List.getD_cons_zero, List.getD_cons_succ, I.at, atL, atO, atP, evp, evs, retV, ↓reduceIte, Nat.reduceEqDiff, reduceCtorEq, AS, t0, t1, t2, t8, t9, og.sl.Xix iG]
    rw [← hsub]
    refine og.Xst iG (hd q) fun w7 og7 hg7 => ?_
    rw [hob] at hg7
    simp (maxSteps := 1000000) (disch := omega) only [WS, List.getElem_cons_zero, List.getElem_cons_succ, Option.isNone_some, Option.isNone_none, List.getD_cons_zero, List.getD_cons_succ, I.at, atL, atO, atP, evp, evs, retV, ↓reduceIte, Nat.reduceEqDiff, reduceCtorEq, AS, t0, t1, t2, t8, t9]
    refine ⟨⟨B.grown hg7 B.size (fun b hb => by cases hb; exact obw), Nat.le_trans S hg7.size, i + 1, _, _, rfl, by omega, og7, by rw [List.length_set]; exact lG, hL.grown hobl hg7, by rw [List.length_append, lE]; rfl, fun j hj => ?_⟩, by omega⟩
    by_cases hji : j = i
    · subst hji
      refine ⟨q, by rw [List.getElem?_append_right (by omega), lE, Nat.sub_self]; rfl, ?_⟩
      rw [Hj_set iG, if_pos rfl, hsub]
    · obtain ⟨e, he1, he2⟩ := hE j (by omega)
      exact ⟨e, by rw [List.getElem?_append_left (by omega)]; exact he1, by rw [Hj_set iG, if_neg hji]; exact he2⟩
  have hin' : i = hin.length := by omega
  generalize hN : hin.length = n at *
  subst hin'
  have gT : ∀ j (hj : j < G.length), ∃ e, E[j]? = some (e, R j) ∧ Cell.v G[j] = e := fun j hj => by
    obtain ⟨e, he1, he2⟩ := hE j (by omega)
    exact ⟨e, he1, by rw [← Hj_get hj]; exact he2⟩
  have gb : ∀ j (hj : j < G.length) b, Fw.blk (Cell.v G[j]) = some b → w1.heap.size ≤ b ∧ b < w2.heap.size := fun j hj b hb => by
    obtain ⟨e, he1, he2⟩ := gT j hj
    rw [he2] at hb
    exact (hL.ow j _ he1).blk b hb
  have hap : Apart out G := ⟨fun x c hx hc b hxc hb1 hb2 => by
    obtain ⟨e, he1, he2⟩ := gT x hx
    obtain ⟨f, hf1, hf2⟩ := gT c hc
    rw [he2] at hb1
    rw [hf2] at hb2
    exact hL.ap x c _ _ b he1 hf1 hxc hb1 hb2, fun x hx b hb1 hb2 => by
    have := (gb x hx b hb1).1
    have := (oob b hb2).2
    omega⟩
  have hown : ∀ x (hx : x < G.length), Ow w.heap.size w2 (Cell.v G[x]) ((RL R i).getD x []) := fun x hx => by
    obtain ⟨e, he1, he2⟩ := gT x hx
    rw [RL_get (by omega), he2]
    exact (hL.ow x _ he1).mono B1s
  have hans0 : Ans w w2 out G R := by
    refine ⟨og.sl, fun x hx => ?_, fun x hx b hb => by have := (gb x hx b hb).1; omega, fun b hb => (oob b hb).1⟩
    have := (hown x hx).sl
    rwa [RL_get (by omega)] at this
  have hsl := h2.sl
  simp (maxSteps := 1000000) (disch := omega) only [WS, List.getElem_cons_zero, List.getElem_cons_succ, Option.isNone_some, Option.isNone_none, List.getD_cons_zero, List.getD_cons_succ, I.at, atL, atO, atP, evp, evs, retV, ↓reduceIte, Nat.reduceEqDiff, reduceCtorEq, AS, t0, t1, t2, t8, t9, hsl.Xlen, hN]
  refine X_call0 ((culletref14_Power_spec w2 _).mono ?_)
  rintro _ w' ⟨rfl, rfl⟩
  cases hP : isP (i : Int) with
  | false =>
    simp (maxSteps := 1000000) (disch := omega) only [WS, List.getElem_cons_zero, List.getElem_cons_succ, Option.isNone_some, Option.isNone_none, List.getD_cons_zero, List.getD_cons_succ, I.at, atL, atO, atP, evp, evs, retV, ↓reduceIte, Nat.reduceEqDiff, reduceCtorEq, AS, t0, t1, t2, t8, t9]
    exact ⟨B, _, G, R, 130, rfl, lG, hans0, Or.inr ⟨fun _ _ => rfl, Or.inl rfl⟩⟩
  | true =>
    obtain ⟨k, hk, hik⟩ := (isP_iff _).1 hP
    have hik : i = 2 ^ k := by omega
    have hp0 := Nat.two_pow_pos k
    have hp16 := pow_le16 hk
    have i0 : 0 < hin.length := by omega
    simp (maxSteps := 1000000) (disch := omega) only [WS, List.getElem_cons_zero, List.getElem_cons_succ, Option.isNone_some, Option.isNone_none, List.getD_cons_zero, List.getD_cons_succ, I.at, atL, atO, atP, evp, evs, retV, ↓reduceIte, Nat.reduceEqDiff, reduceCtorEq, AS, t0, t1, t2, t8, t9]
    refine loop_of (fun t w3 => t 0 = s ∧ t 1 = .int .i64 a ∧ t 2 = .bool false ∧ t 8 = out ∧ RowKit.Below w'.heap.size w' w3 ∧ ∃ j : Nat, t 10 = .int .i64 (j : Int) ∧ j ≤ i ∧ ∀ x, x < j → (R x).length = (R 0).length) (fun t _ => i - (toI (t 10)).toNat)
      ⟨by simp only [WS, List.getElem_cons_zero, List.getElem_cons_succ, Option.isNone_some, Option.isNone_none, List.getD_cons_zero, List.getD_cons_succ, I.at, atL, atO, atP, evp, evs, retV, ↓reduceIte, Nat.reduceEqDiff, reduceCtorEq]; exact t0, by simp only [WS, List.getElem_cons_zero, List.getElem_cons_succ, Option.isNone_some, Option.isNone_none, List.getD_cons_zero, List.getD_cons_succ, I.at, atL, atO, atP, evp, evs, retV, ↓reduceIte, Nat.reduceEqDiff, reduceCtorEq]; exact t1, by simp only [WS, List.getElem_cons_zero, List.getElem_cons_succ, Option.isNone_some, Option.isNone_none, List.getD_cons_zero, List.getD_cons_succ, I.at, atL, atO, atP, evp, evs, retV, ↓reduceIte, Nat.reduceEqDiff, reduceCtorEq]; exact t2, by simp only [WS, List.getElem_cons_zero, List.getElem_cons_succ, Option.isNone_some, Option.isNone_none, List.getD_cons_zero, List.getD_cons_succ, I.at, atL, atO, atP, evp, evs, retV, ↓reduceIte, Nat.reduceEqDiff, reduceCtorEq]; exact t8, RowKit.Below.refl _ _, 0, rfl, by omega, fun x hx => by omega⟩ ?_
    clear t0 t1 t2 t8 t9
    rintro t w3 ⟨t0, t1, t2, t8, C, j, t10, hj, hall⟩
    have h3 := h2.up C
    have hq0 : ∃ q, q = (R 0).length := ⟨_, rfl⟩
    by_cases hji : j < i
    · have jh : j < hin.length := by omega
      have hd := h3.sl.drew
      have hrj := (h3.row j jh).drew
      have hr0 := (h3.row 0 i0).drew
      have C1 : RowKit.Below w'.heap.size w' w3.drew := C.trans ((bel_drew w3).mono C.size)
      simp (maxSteps := 1000000) (disch := omega) only [WS, List.getElem_cons_zero, List.getElem_cons_succ, Option.isNone_some, Option.isNone_none, List.getD_cons_zero, List.getD_cons_succ, I.at, atL, atO, atP, evp, evs, retV, ↓reduceIte, Nat.reduceEqDiff, reduceCtorEq, AS, t0, t1, t2, t8, t10, h3.sl.Xlen, hN]
      refine WP_dops ?_
      by_cases hn : (R j).length = (R 0).length
      · have d1 : decide (((R j).length : Int) = ((R 0).length : Int)) = true := decide_eq_true (by omega)
        simp (maxSteps := 1000000) (disch := omega) only [ES, List.mem_cons, List.not_mem_nil, implies_true, forall_const, WS, List.getElem_cons_zero, List.getElem_cons_succ, Option.isNone_some, Option.isNone_none, List.getD_cons_zero, List.getD_cons_succ, I.at, atL, atO, atP, evp, evs, retV, ↓reduceIte, Nat.reduceEqDiff, reduceCtorEq, AS, t0, t1, t2, t8, t10, hd.Eix jh, hd.Eld jh, hd.Eix0 i0, hd.Eld i0, hrj.Elen, hr0.Elen, d1]
        refine ⟨⟨C1, j + 1, rfl, by omega, fun x hx => ?_⟩, by omega⟩
        by_cases hxj : x = j
        · subst hxj; exact hn
        · exact hall x (by omega)
      · have d1 : decide (((R j).length : Int) = ((R 0).length : Int)) = false := decide_eq_false (by omega)
        simp (maxSteps := 1000000) (disch := omega) only [ES, List.mem_cons, List.not_mem_nil, implies_true, forall_const, WS, List.getElem_cons_zero, List.getElem_cons_succ, Option.isNone_some, Option.isNone_none, List.getD_cons_zero, List.getD_cons_succ, I.at, atL, atO, atP, evp, evs, retV, ↓reduceIte, Nat.reduceEqDiff, reduceCtorEq, AS, t0, t1, t2, t8, t10, hd.Eix jh, hd.Eld jh, hd.Eix0 i0, hd.Eld i0, hrj.Elen, hr0.Elen, d1]
        exact ⟨B.trans (C1.mono B.size), _, G, R, 6, rfl, lG, hans0.up C1, Or.inr ⟨fun _ _ => rfl, Or.inr (Or.inl ⟨fun ⟨q, hq⟩ => hn ((hq j hji).trans (hq 0 (by omega)).symm), rfl⟩)⟩⟩
    · have hall : ∀ x, x < i → (R x).length = (R 0).length := fun x hx => hall x (by omega)
      have B3 := B.trans (C.mono B.size)
      simp (maxSteps := 1000000) (disch := omega) only [WS, List.getElem_cons_zero, List.getElem_cons_succ, Option.isNone_some, Option.isNone_none, List.getD_cons_zero, List.getD_cons_succ, I.at, atL, atO, atP, evp, evs, retV, ↓reduceIte, Nat.reduceEqDiff, reduceCtorEq, AS, t0, t1, t2, t8, t10, h3.sl.Xlen, hN]
      refine X_call0 ((culletref14_Coset_spec w3 a i i (by omega) (by omega)).mono ?_)
      rintro _ w4 ⟨rfl, rfl⟩
      cases hC : isC a i i with
      | false =>
        simp (maxSteps := 1000000) (disch := omega) only [WS, List.getElem_cons_zero, List.getElem_cons_succ, Option.isNone_some, Option.isNone_none, List.getD_cons_zero, List.getD_cons_succ, I.at, atL, atO, atP, evp, evs, retV, ↓reduceIte, Nat.reduceEqDiff, reduceCtorEq, AS, t0, t1, t2, t8, t10]
        exact ⟨B3, _, G, R, 140, rfl, lG, hans0.up C, Or.inr ⟨fun _ _ => rfl, Or.inr (Or.inr ⟨⟨_, hall⟩, rfl⟩)⟩⟩
      | true =>
        have hC2 := hC
        rw [hik] at hC2
        obtain ⟨A, rfl, hA1, hA2⟩ := isC_nat hC
        simp (maxSteps := 1000000) (disch := omega) only [WS, List.getElem_cons_zero, List.getElem_cons_succ, Option.isNone_some, Option.isNone_none, List.getD_cons_zero, List.getD_cons_succ, I.at, atL, atO, atP, evp, evs, retV, ↓reduceIte, Nat.reduceEqDiff, reduceCtorEq, AS, t0, t1, t2, t8, t10]
        refine X_call0 ((culletref03_Elements_spec2 w4).mono ?_)
        rintro sw w5 ⟨WL, hw, hwb, hB⟩
        generalize hF : (fun u : World => RowKit.Below w.heap.size w u ∧ Wls u sw WL ∧ w'.heap.size ≤ u.heap.size) = F
        have hF5 : F w5 := by rw [← hF]; exact ⟨B3.trans (hB.mono B3.size), hw, Nat.le_trans C.size hB.size⟩
        have hFrm : Frm F (fun b => w.heap.size ≤ b ∧ b < w'.heap.size) := by
          rw [← hF]
          refine ⟨fun u u' b hu hb hg => ⟨hu.1.grown hg hu.1.size (fun c hc => by cases hc; exact hb.1), ⟨hu.2.1.sl.grown hg (Or.inl fun e => ?_), hu.2.1.ln, hu.2.1.at'⟩, Nat.le_trans hu.2.2 hg.size⟩, fun u u' hu hB => ⟨hu.1.trans (hB.mono hu.1.size), hu.2.1.up hB, Nat.le_trans hu.2.2 hB.size⟩⟩
          have := hwb b e
          have := C.size
          omega
        have hFo : ∀ u, F u → RowKit.Below w.heap.size w u ∧ Wls u sw WL ∧ w'.heap.size ≤ u.heap.size := fun u hu => by rw [← hF] at hu; exact hu
        clear hF
        have hDb : ∀ x (hx : x < G.length) b, Fw.blk (Cell.v G[x]) = some b → w.heap.size ≤ b ∧ b < w'.heap.size := fun x hx b hb => by have := gb x hx b hb; omega
        have C5 : RowKit.Below w'.heap.size w' w5 := C.trans (hB.mono C.size)
        have hM0 : Rof w.heap.size F out G (RL R i) w5 := ⟨by rw [RL_len]; omega, fun x hx => (hown x hx).up C5, og.sl.up C5, hF5, (hFo w5 hF5).1.size⟩
        obtain ⟨q, hq⟩ : ∃ q, q = (R 0).length := ⟨_, rfl⟩
        have hqq : ∀ x, x < i → (R x).length = q := fun x hx => by rw [hq]; exact hall x hx
        have hq0 := hqq 0 (by omega)
        have hqb : q ≤ 70368744175616 := by rw [hq]; exact h.len 0 i0
        simp (maxSteps := 1000000) (disch := omega) only [WS, List.getElem_cons_zero, List.getElem_cons_succ, Option.isNone_some, Option.isNone_none, List.getD_cons_zero, List.getD_cons_succ, I.at, atL, atO, atP, evp, evs, retV, ↓reduceIte, Nat.reduceEqDiff, reduceCtorEq, AS, t0, t1, t2, t8, t10]
        refine loop_of (fun t u => t 0 = s ∧ t 1 = .int .i64 (A : Int) ∧ t 2 = .bool false ∧ t 8 = out ∧ t 11 = sw ∧ ∃ (c : Nat) (W : List (List (El 16))), t 12 = .int .i64 (c : Int) ∧ c ≤ q ∧ Rof w.heap.size F out G W u ∧ (∀ x, x < i → (W.getD x []).length = q) ∧ ∀ x y, x < i → (co (W.getD x [])).c y = if y < c then itF A k (fun x => (co (R x)).c y) x else (co (R x)).c y)
          (fun t _ => q - (toI (t 12)).toNat) ⟨by simp only [WS, List.getElem_cons_zero, List.getElem_cons_succ, Option.isNone_some, Option.isNone_none, List.getD_cons_zero, List.getD_cons_succ, I.at, atL, atO, atP, evp, evs, retV, ↓reduceIte, Nat.reduceEqDiff, reduceCtorEq]; exact t0, by simp only [WS, List.getElem_cons_zero, List.getElem_cons_succ, Option.isNone_some, Option.isNone_none, List.getD_cons_zero, List.getD_cons_succ, I.at, atL, atO, atP, evp, evs, retV, ↓reduceIte, Nat.reduceEqDiff, reduceCtorEq]; exact t1, by simp only [WS, List.getElem_cons_zero, List.getElem_cons_succ, Option.isNone_some, Option.isNone_none, List.getD_cons_zero, List.getD_cons_succ, I.at, atL, atO, atP, evp, evs, retV, ↓reduceIte, Nat.reduceEqDiff, reduceCtorEq]; exact t2, by simp only [WS, List.getElem_cons_zero, List.getElem_cons_succ, Option.isNone_some, Option.isNone_none, List.getD_cons_zero, List.getD_cons_succ, I.at, atL, atO, atP, evp, evs, retV, ↓reduceIte, Nat.reduceEqDiff, reduceCtorEq]; exact t8, by simp only [WS, List.getElem_cons_zero, List.getElem_cons_succ, Option.isNone_some, Option.isNone_none, List.getD_cons_zero, List.getD_cons_succ, I.at, atL, atO, atP, evp, evs, retV, ↓reduceIte, Nat.reduceEqDiff, reduceCtorEq], 0, _, rfl, by omega, hM0, fun x hx => by rw [RL_get hx]; exact hqq x hx, fun x y hx => by rw [RL_get hx, if_neg (by omega)]⟩ ?_
        clear t0 t1 t2 t8 t10 hM0 hF5
        rintro t w6 ⟨t0, t1, t2, t8, t11, c, W, t12, hc, hM, hWl, hW⟩
        obtain ⟨B6, hw6, S6⟩ := hFo _ hM.2.2.2.1
        have h6 := h.up B6
        by_cases hcq : c < q
        · simp (maxSteps := 1000000) (disch := omega) only [WS, List.getElem_cons_zero, List.getElem_cons_succ, Option.isNone_some, Option.isNone_none, List.getD_cons_zero, List.getD_cons_succ, I.at, atL, atO, atP, evp, evs, retV, ↓reduceIte, Nat.reduceEqDiff, reduceCtorEq, AS, t0, t1, t2, t8, t11, t12, h6.sl.Xix0 i0, h6.sl.Xld i0, (h6.row 0 i0).Xlen, hq0, h6.sl.Xlen, hN]
          refine X_mks (x := (0 : El 16)) (by simp only [maxBytes]; omega) (by omega) fun p w7 op hB7 => ?_
          simp (maxSteps := 1000000) (disch := omega) only [WS, List.getElem_cons_zero, List.getElem_cons_succ, Option.isNone_some, Option.isNone_none, List.getD_cons_zero, List.getD_cons_succ, I.at, atL, atO, atP, evp, evs, retV, ↓reduceIte, Nat.reduceEqDiff, reduceCtorEq, AS, t0, t1, t2, t8, t11, t12]
          refine loop_of (fun t u => t 0 = s ∧ t 1 = .int .i64 (A : Int) ∧ t 2 = .bool false ∧ t 8 = out ∧ t 11 = sw ∧ t 12 = .int .i64 (c : Int) ∧ t 13 = p ∧ RowKit.Below w6.heap.size w6 u ∧ ∃ (j : Nat) (L : List (El 16)), t 14 = .int .i64 (j : Int) ∧ j ≤ i ∧ Ow w6.heap.size u p L ∧ L.length = i ∧ ∀ x, x < j → (co L).c x = (co (R x)).c c)
            (fun t _ => i - (toI (t 14)).toNat) ⟨by simp only [WS, List.getElem_cons_zero, List.getElem_cons_succ, Option.isNone_some, Option.isNone_none, List.getD_cons_zero, List.getD_cons_succ, I.at, atL, atO, atP, evp, evs, retV, ↓reduceIte, Nat.reduceEqDiff, reduceCtorEq]; exact t0, by simp only [WS, List.getElem_cons_zero, List.getElem_cons_succ, Option.isNone_some, Option.isNone_none, List.getD_cons_zero, List.getD_cons_succ, I.at, atL, atO, atP, evp, evs, retV, ↓reduceIte, Nat.reduceEqDiff, reduceCtorEq]; exact t1, by simp only [WS, List.getElem_cons_zero, List.getElem_cons_succ, Option.isNone_some, Option.isNone_none, List.getD_cons_zero, List.getD_cons_succ, I.at, atL, atO, atP, evp, evs, retV, ↓reduceIte, Nat.reduceEqDiff, reduceCtorEq]; exact t2, by simp only [WS, List.getElem_cons_zero, List.getElem_cons_succ, Option.isNone_some, Option.isNone_none, List.getD_cons_zero, List.getD_cons_succ, I.at, atL, atO, atP, evp, evs, retV, ↓reduceIte, Nat.reduceEqDiff, reduceCtorEq]; exact t8, by simp only [WS, List.getElem_cons_zero, List.getElem_cons_succ, Option.isNone_some, Option.isNone_none, List.getD_cons_zero, List.getD_cons_succ, I.at, atL, atO, atP, evp, evs, retV, ↓reduceIte, Nat.reduceEqDiff, reduceCtorEq]; exact t11, by simp only [WS, List.getElem_cons_zero, List.getElem_cons_succ, Option.isNone_some, Option.isNone_none, List.getD_cons_zero, List.getD_cons_succ, I.at, atL, atO, atP, evp, evs, retV, ↓reduceIte, Nat.reduceEqDiff, reduceCtorEq]; exact t12, by simp only [WS, List.getElem_cons_zero, List.getElem_cons_succ, Option.isNone_some, Option.isNone_none, List.getD_cons_zero, List.getD_cons_succ, I.at, atL, atO, atP, evp, evs, retV, ↓reduceIte, Nat.reduceEqDiff, reduceCtorEq], hB7, 0, _, rfl, by omega, op, by simp, fun x hx => by omega⟩ ?_
          clear t0 t1 t2 t8 t11 t12 hB7 op
          rintro t w8 ⟨t0, t1, t2, t8, t11, t12, t13, C8, j, L, t14, hj, op, lL, hL⟩
          have h8 := h6.up C8
          by_cases hji : j < i
          · have jh : j < hin.length := by omega
            have jL : j < L.length := by omega
            have cr : c < (R j).length := by rw [hqq j hji]; exact hcq
            simp (maxSteps := 1000000) (disch := omega) only [WS, List.getElem_cons_zero, List.getElem_cons_succ, Option.isNone_some, Option.isNone_none, List.getD_cons_zero, List.getD_cons_succ, I.at, atL, atO, atP, evp, evs, retV, ↓reduceIte, Nat.reduceEqDiff, reduceCtorEq, AS, t0, t1, t2, t8, t11, t12, t13, t14, h8.sl.Xlen, hN, h8.sl.Xix jh, h8.sl.Xld jh, (h8.row j jh).Xix cr, (h8.row j jh).Xld cr, cell_e16, op.sl.Xix jL]
            refine op.Xst jL ((R j)[c]) fun w9 op9 hg9 => ?_
            simp (maxSteps := 1000000) (disch := omega) only [WS, List.getElem_cons_zero, List.getElem_cons_succ, Option.isNone_some, Option.isNone_none, List.getD_cons_zero, List.getD_cons_succ, I.at, atL, atO, atP, evp, evs, retV, ↓reduceIte, Nat.reduceEqDiff, reduceCtorEq, AS, t0, t1, t2, t8, t11, t12, t13, t14]
            refine ⟨⟨C8.grown hg9 C8.size (fun b hb => (op.blk b hb).1), j + 1, _, rfl, by omega, op9, by rw [List.length_set]; exact lL, fun x hx => ?_⟩, by omega⟩
            rw [co_set _ jL]
            by_cases hxj : x = j
            · subst hxj; rw [if_pos rfl, co_get _ cr]
            · rw [if_neg hxj]; exact hL x (by omega)
          · have hL : ∀ x, x < i → (co L).c x = (co (R x)).c c := fun x hx => hL x (by omega)
            simp (maxSteps := 1000000) (disch := omega) only [WS, List.getElem_cons_zero, List.getElem_cons_succ, Option.isNone_some, Option.isNone_none, List.getD_cons_zero, List.getD_cons_succ, I.at, atL, atO, atP, evp, evs, retV, ↓reduceIte, Nat.reduceEqDiff, reduceCtorEq, AS, t0, t1, t2, t8, t11, t12, t13, t14, h8.sl.Xlen, hN]
            refine X_call0 ((culletref14_values_spec k w8 p sw A L WL op.sl (by omega) hk (by rw [← hik]; exact hA1) (by rw [← hik]; exact hA2) (hw6.up C8)).mono ?_)
            rintro sv w9 ⟨m, om, lm, cm, hB9⟩
            have C9 := C8.trans (hB9.mono C8.size)
            have omb : ∀ b, Fw.blk sv = some b → w8.heap.size ≤ b := fun b hb => (om.blk b hb).1
            have hFrm2 : Frm (fun u => F u ∧ Sl u sv m) (fun b => w.heap.size ≤ b ∧ b < w'.heap.size) := by
              refine ⟨fun u u' b hu hb hg => ⟨hFrm.gr u u' b hu.1 hb hg, hu.2.grown hg (Or.inl fun e => ?_)⟩, fun u u' hu hB => ⟨hFrm.up u u' hu.1 hB, hu.2.up hB⟩⟩
              have h1 := omb b e
              have h2 := C8.size
              omega
            have hR := Rof.rws (α := El 16) (B := w.heap.size) hap hFrm2 hDb
            have hM9 : Rof w.heap.size (fun u => F u ∧ Sl u sv m) out G W w9 := ⟨hM.1, fun x hx => (hM.2.1 x hx).up C9, hM.2.2.1.up C9, ⟨hFrm.up _ _ hM.2.2.2.1 C9, om.sl⟩, Nat.le_trans hM.2.2.2.2 C9.size⟩
            simp (maxSteps := 1000000) (disch := omega) only [WS, List.getElem_cons_zero, List.getElem_cons_succ, Option.isNone_some, Option.isNone_none, List.getD_cons_zero, List.getD_cons_succ, I.at, atL, atO, atP, evp, evs, retV, ↓reduceIte, Nat.reduceEqDiff, reduceCtorEq, AS, t0, t1, t2, t8, t11, t12, t13, t14]
            refine loop_of (fun t u => t 0 = s ∧ t 1 = .int .i64 (A : Int) ∧ t 2 = .bool false ∧ t 8 = out ∧ t 11 = sw ∧ t 12 = .int .i64 (c : Int) ∧ t 13 = sv ∧ ∃ (j : Nat) (W' : List (List (El 16))), t 15 = .int .i64 (j : Int) ∧ j ≤ i ∧ Rof w.heap.size (fun u => F u ∧ Sl u sv m) out G W' u ∧ (∀ x, x < i → (W'.getD x []).length = q) ∧ ∀ x y, x < i → (co (W'.getD x [])).c y = if x < j ∧ y = c then (co m).c x else (co (W.getD x [])).c y)
              (fun t _ => i - (toI (t 15)).toNat) ⟨by simp only [WS, List.getElem_cons_zero, List.getElem_cons_succ, Option.isNone_some, Option.isNone_none, List.getD_cons_zero, List.getD_cons_succ, I.at, atL, atO, atP, evp, evs, retV, ↓reduceIte, Nat.reduceEqDiff, reduceCtorEq]; exact t0, by simp only [WS, List.getElem_cons_zero, List.getElem_cons_succ, Option.isNone_some, Option.isNone_none, List.getD_cons_zero, List.getD_cons_succ, I.at, atL, atO, atP, evp, evs, retV, ↓reduceIte, Nat.reduceEqDiff, reduceCtorEq]; exact t1, by simp only [WS, List.getElem_cons_zero, List.getElem_cons_succ, Option.isNone_some, Option.isNone_none, List.getD_cons_zero, List.getD_cons_succ, I.at, atL, atO, atP, evp, evs, retV, ↓reduceIte, Nat.reduceEqDiff, reduceCtorEq]; exact t2, by simp only [WS, List.getElem_cons_zero, List.getElem_cons_succ, Option.isNone_some, Option.isNone_none, List.getD_cons_zero, List.getD_cons_succ, I.at, atL, atO, atP, evp, evs, retV, ↓reduceIte, Nat.reduceEqDiff, reduceCtorEq]; exact t8, by simp only [WS, List.getElem_cons_zero, List.getElem_cons_succ, Option.isNone_some, Option.isNone_none, List.getD_cons_zero, List.getD_cons_succ, I.at, atL, atO, atP, evp, evs, retV, ↓reduceIte, Nat.reduceEqDiff, reduceCtorEq]; exact t11, by simp only [WS, List.getElem_cons_zero, List.getElem_cons_succ, Option.isNone_some, Option.isNone_none, List.getD_cons_zero, List.getD_cons_succ, I.at, atL, atO, atP, evp, evs, retV, ↓reduceIte, Nat.reduceEqDiff, reduceCtorEq]; exact t12, by simp only [WS, List.getElem_cons_zero, List.getElem_cons_succ, Option.isNone_some, Option.isNone_none, List.getD_cons_zero, List.getD_cons_succ, I.at, atL, atO, atP, evp, evs, retV, ↓reduceIte, Nat.reduceEqDiff, reduceCtorEq], 0, W, rfl, by omega, hM9, hWl, fun x y hx => by rw [if_neg (by omega)]⟩ ?_
            clear t0 t1 t2 t8 t11 t12 t13 t14 hM9
            rintro t w10 ⟨t0, t1, t2, t8, t11, t12, t13, j, W', t15, hj, hM', hWl', hW'⟩
            obtain ⟨B10, -, -⟩ := hFo _ hM'.2.2.2.1.1
            have h10 := h.up B10
            by_cases hji : j < i
            · have jG : j < G.length := by omega
              have jm : j < m.length := by omega
              have jW : j < W'.length := by rw [hM'.1]; omega
              have cw : c < (W'.getD j []).length := by rw [hWl' j hji]; exact hcq
              have Wj := hR.wr W' j jG hM'.1
              have hMd : Rof w.heap.size (fun u => F u ∧ Sl u sv m) out G (W'.set j (W'.getD j [])) w10.drew := by rw [set_getD W' jW]; exact hR.up _ _ _ hM' (bel_drew w10)
              have so := hM'.2.2.1.drew
              have sm := hM'.2.2.2.1.2.drew
              have sr := (hM'.2.1 j jG).sl.drew
              simp (maxSteps := 1000000) (disch := omega) only [WS, List.getElem_cons_zero, List.getElem_cons_succ, Option.isNone_some, Option.isNone_none, List.getD_cons_zero, List.getD_cons_succ, I.at, atL, atO, atP, evp, evs, retV, ↓reduceIte, Nat.reduceEqDiff, reduceCtorEq, AS, t0, t1, t2, t8, t11, t12, t13, t15, h10.sl.Xlen, hN]
              refine WP_dops ?_
              simp (maxSteps := 1000000) (disch := omega) only [ES, List.mem_cons, List.not_mem_nil, implies_true, forall_const, WS, List.getElem_cons_zero, List.getElem_cons_succ, Option.isNone_some, Option.isNone_none, List.getD_cons_zero, List.getD_cons_succ, I.at, atL, atO, atP, evp, evs, retV, ↓reduceIte, Nat.reduceEqDiff, reduceCtorEq, AS, t0, t1, t2, t8, t11, t12, t13, t15, so.Eix jG, so.Eld jG, sm.Eix jm, sm.Eld jm, cell_e16, sr.Eix cw]
              refine Wj.Est hMd cw m[j] fun w11 hM11 hg11 => ?_
              simp (maxSteps := 1000000) (disch := omega) only [ES, List.mem_cons, List.not_mem_nil, implies_true, forall_const, WS, List.getElem_cons_zero, List.getElem_cons_succ, Option.isNone_some, Option.isNone_none, List.getD_cons_zero, List.getD_cons_succ, I.at, atL, atO, atP, evp, evs, retV, ↓reduceIte, Nat.reduceEqDiff, reduceCtorEq, AS, t0, t1, t2, t8, t11, t12, t13, t15]
              refine ⟨⟨j + 1, _, rfl, by omega, hM11, fun x hx => ?_, fun x y hx => ?_⟩, by omega⟩
              · rw [getD_setL W' jW]
                by_cases hxj : x = j
                · rw [if_pos hxj, List.length_set]; exact hWl' j hji
                · rw [if_neg hxj]; exact hWl' x hx
              · rw [getD_setL W' jW]
                by_cases hxj : x = j
                · subst hxj
                  rw [if_pos rfl, co_set _ cw]
                  by_cases hyc : y = c
                  · rw [if_pos hyc, if_pos ⟨by omega, hyc⟩, co_get m jm]
                  · rw [if_neg hyc, hW' x y hx, if_neg (by omega), if_neg (by omega)]
                · rw [if_neg hxj, hW' x y hx]
                  have : (x < j + 1 ∧ y = c) = (x < j ∧ y = c) := propext ⟨fun h => ⟨by omega, h.2⟩, fun h => ⟨by omega, h.2⟩⟩
                  simp only [this]
            · have hW2 : ∀ x y, x < i → (co (W'.getD x [])).c y = if y = c then (co m).c x else (co (W.getD x [])).c y := fun x y hx => by
                rw [hW' x y hx]
                by_cases hyc : y = c
                · rw [if_pos ⟨by omega, hyc⟩, if_pos hyc]
                · rw [if_neg (fun h => hyc h.2), if_neg hyc]
              simp (maxSteps := 1000000) (disch := omega) only [WS, List.getElem_cons_zero, List.getElem_cons_succ, Option.isNone_some, Option.isNone_none, List.getD_cons_zero, List.getD_cons_succ, I.at, atL, atO, atP, evp, evs, retV, ↓reduceIte, Nat.reduceEqDiff, reduceCtorEq, AS, t0, t1, t2, t8, t11, t12, t13, t15, h10.sl.Xlen, hN]
              refine ⟨⟨c + 1, W', rfl, by omega, ⟨hM'.1, hM'.2.1, hM'.2.2.1, hM'.2.2.2.1.1, hM'.2.2.2.2⟩, hWl', fun x y hx => ?_⟩, by omega⟩
              rw [hW2 x y hx]
              by_cases hyc : y = c
              · subst hyc
                rw [if_pos rfl, if_pos (by omega), cm x (by omega)]
                exact itF_loc (n := i) (by rw [hik]; exact Nat.mod_self _) hL x hx
              · rw [if_neg hyc, hW x y hx]
                by_cases hy2 : y < c
                · rw [if_pos hy2, if_pos (by omega)]
                · rw [if_neg hy2, if_neg (by omega)]
        · obtain rfl : c = q := by omega
          simp (maxSteps := 1000000) (disch := omega) only [WS, List.getElem_cons_zero, List.getElem_cons_succ, Option.isNone_some, Option.isNone_none, List.getD_cons_zero, List.getD_cons_succ, I.at, atL, atO, atP, evp, evs, retV, ↓reduceIte, Nat.reduceEqDiff, reduceCtorEq, AS, t0, t1, t2, t8, t11, t12, h6.sl.Xix0 i0, h6.sl.Xld i0, (h6.row 0 i0).Xlen, hq0]
          refine ⟨B6, _, G, fun x => W.getD x [], 0, rfl, lG, Ans.of hM rfl (fun b hb => (oob b hb).1), Or.inl ⟨k, c, hk, hik, hC2, fun x hx => hqq x (by omega), rfl, fun x hx => hWl x (by omega), fun x y hx => ?_⟩⟩
          rw [hW x y (by omega), Int.toNat_natCast]
          by_cases hy : y < c
          · rw [if_pos hy]
          · rw [if_neg hy, co_dg _ y (by rw [hqq x (by omega)]; omega)]
            have hz : ∀ x, x < i → (fun x => (co (R x)).c y) x = (fun _ => (0 : El 16)) x := fun x hx => co_dg _ y (by rw [hqq x hx]; omega)
            rw [itF_loc (n := i) (by rw [hik]; exact Nat.mod_self _) hz x (by omega), itF_zero]
end Go.Proofs.Ytpmfeaajpjjfiaa.Fw

set_option linter.unusedVariables false
set_option linter.unusedSimpArgs false
set_option maxRecDepth 100000
set_option maxHeartbeats 1000000
namespace Go.Proofs.Ytpmfeaajpjjfiaa.Fw
open Go Go.Fw Go.Proofs
attribute [local irreducible] stepI

end Go.Proofs.Ytpmfeaajpjjfiaa.Fw
namespace Go.Proofs.Ytpmfeaajpjjfiaa.Fw
open Go Go.Fw
set_option maxHeartbeats 4000000 in
theorem culletref14_RowsI_spec (w : World) (s : Value) (hin : List Hd) (R : Nat → List (El 16)) (a : Int) (h : Rin w s hin R) :
    CallV Try.prog 76 [s, .int .i64 a, .bool true] w fun v w' => RowKit.Below w.heap.size w w' ∧ ∃ (z : Value) (hs : List Hd) (V : Nat → List (El 16)) (e : Int), v = .tuple #[z, .int .i64 e] ∧ hs.length = hin.length ∧ Ans w w' z hs V ∧
      ((∃ k q, k ≤ 16 ∧ hin.length = 2 ^ k ∧ isC a (2 ^ k) (2 ^ k) = true ∧ (∀ i, i < 2 ^ k → (R i).length = q) ∧ e = 0 ∧ (∀ i, i < 2 ^ k → (V i).length = q) ∧ ∀ i c, i < 2 ^ k → (co (V i)).c c = itI a.toNat k (fun i => (co (R i)).c c) i) ∨
       ((∀ i, i < hin.length → V i = R i) ∧ ((isP (hin.length : Int) = false ∧ e = 130) ∨ (isP (hin.length : Int) = true ∧ ¬ (∃ q, ∀ i, i < hin.length → (R i).length = q) ∧ e = 6) ∨ (isP (hin.length : Int) = true ∧ (∃ q, ∀ i, i < hin.length → (R i).length = q) ∧ isC a hin.length hin.length = false ∧ e = 140)))) := by
  have hnum := h.num
  refine run_culletref14_Rows (by simp) ?_
  simp only [c_culletref14_Rows, WS, List.getElem_cons_zero, List.getElem_cons_succ, Option.isNone_some, Option.isNone_none, List.getD_cons_zero, List.getD_cons_succ, I.at, atL, atO, atP, evp, evs, retV, ↓reduceIte, Nat.reduceEqDiff, reduceCtorEq]
  simp (maxSteps := 1000000) (disch := omega) only [WS, List.getElem_cons_zero, List.getElem_cons_succ, Option.isNone_some, Option.isNone_none, List.getD_cons_zero, List.getD_cons_succ, I.at, atL, atO, atP, evp, evs, retV, ↓reduceIte, Nat.reduceEqDiff, reduceCtorEq, AS, h.sl.Xlen]
  refine X_mks (x := hdn) (by simp only [maxBytes]; omega) (by omega) fun out w1 oo hB1 => ?_
  have oob := oo.blk
  have B1s := hB1.size
  simp (maxSteps := 1000000) (disch := omega) only [WS, List.getElem_cons_zero, List.getElem_cons_succ, Option.isNone_some, Option.isNone_none, List.getD_cons_zero, List.getD_cons_succ, I.at, atL, atO, atP, evp, evs, retV, ↓reduceIte, Nat.reduceEqDiff, reduceCtorEq, AS]
  refine loop_of (fun t w' => t 0 = s ∧ t 1 = .int .i64 a ∧ t 2 = .bool true ∧ t 8 = out ∧ RowKit.Below w.heap.size w w' ∧ w1.heap.size ≤ w'.heap.size ∧ ∃ (i : Nat) (G : List Hd) (E : List (Value × List (El 16))), t 9 = .int .i64 (i : Int) ∧ i ≤ hin.length ∧ Ow w.heap.size w' out G ∧ G.length = hin.length ∧ Lst w1.heap.size E w' ∧ E.length = i ∧ ∀ j, j < i → ∃ e, E[j]? = some (e, R j) ∧ Hj G j = e)
    (fun t _ => hin.length - (toI (t 9)).toNat) ⟨by simp only [WS, List.getElem_cons_zero, List.getElem_cons_succ, Option.isNone_some, Option.isNone_none, List.getD_cons_zero, List.getD_cons_succ, I.at, atL, atO, atP, evp, evs, retV, ↓reduceIte, Nat.reduceEqDiff, reduceCtorEq], by simp only [WS, List.getElem_cons_zero, List.getElem_cons_succ, Option.isNone_some, Option.isNone_none, List.getD_cons_zero, List.getD_cons_succ, I.at, atL, atO, atP, evp, evs, retV, ↓reduceIte, Nat.reduceEqDiff, reduceCtorEq], by simp only [WS, List.getElem_cons_zero, List.getElem_cons_succ, Option.isNone_some, Option.isNone_none, List.getD_cons_zero, List.getD_cons_succ, I.at, atL, atO, atP, evp, evs, retV, ↓reduceIte, Nat.reduceEqDiff, reduceCtorEq], by simp only [WS, List.getElem_cons_zero, List.getElem_cons_succ, Option.isNone_some, Option.isNone_none, List.getD_cons_zero, List.getD_cons_succ, I.at, atL, atO, atP, evp, evs, retV, ↓reduceIte, Nat.reduceEqDiff, reduceCtorEq], hB1, Nat.le_refl _, 0, _, [], rfl, by omega, oo, by simp, Lst.nil _ _, rfl, fun j hj => by omega⟩ ?_
  clear oo hB1
  rintro t w2 ⟨t0, t1, t2, t8, B, S, i, G, E, t9, hi, og, lG, hL, lE, hE⟩
  have h2 := h.up B
  by_cases hlt : i < hin.length
  · have iG : i < G.length := by omega
    have hlen := h.len i hlt
    obtain ⟨ob, hob, hoblt⟩ := og.sl.blk_lt (by rintro rfl; simp at lG; omega)
    have obw := (oob ob hob).1
    have hobl := (oob ob hob).2
    simp (maxSteps := 1000000) (disch := omega) only [WS, List.getElem_cons_zero, List.getElem_cons_succ, Option.isNone_some, Option.isNone_none, List.getD_cons_zero, List.getD_cons_succ, I.at, atL, atO, atP, evp, evs, retV, ↓reduceIte, Nat.reduceEqDiff, reduceCtorEq, AS, t0, t1, t2, t8, t9, h2.sl.Xlen]
    refine X_bsl (zs := ([] : List (El 16))) (by rfl) (by rfl) fun p w3 op hB => ?_
    have h3 := h2.up hB
    simp (maxSteps := 1000000) (disch := omega) only [WS, List.getElem_cons_zero, List.getElem_cons_succ, Option.isNone_some, Option.isNone_none, List.getD_cons_zero, List.getD_cons_succ, I.at, atL, atO, atP, evp, evs, retV, ↓reduceIte, Nat.reduceEqDiff, reduceCtorEq, AS, t0, t1, t2, t8, t9, h3.sl.Xix hlt, h3.sl.Xld hlt]
    refine op.Xapp2 (h3.row i hlt) hB.size (by simp only [List.length_nil, maxBytes]; omega) (by simp only [List.length_nil]; omega) fun q w4 oq hg => ?_
    rw [List.nil_append] at oq
    have D := hg.below hB hB.size fun b hb => (op.blk b hb).1
    clear hg op hB h3
    have og := og.up D
    have hL := hL.push D S oq
    have B := B.trans (D.mono B.size)
    have S := Nat.le_trans S D.size
    have hsub := oq.sl.hd.1
    simp (maxSteps := 1000000) (disch := omega) only [WS, List.getElem_cons_zero, List.getElem_cons_succ, Option.isNone_some, Option.isNone_none, List.getD_cons_zero, List.getD_cons_succ, I.at, atL, atO, atP, evp, evs, retV, ↓reduceIte, Nat.reduceEqDiff, reduceCtorEq, AS, t0, t1, t2, t8, t9, og.sl.Xix iG]
    rw [← hsub]
    refine og.Xst iG (hd q) fun w7 og7 hg7 => ?_
    rw [hob] at hg7
    simp (maxSteps := 1000000) (disch := omega) only [WS, List.getElem_cons_zero, List.getElem_cons_succ, Option.isNone_some, Option.isNone_none, List.getD_cons_zero, List.getD_cons_succ, I.at, atL, atO, atP, evp, evs, retV, ↓reduceIte, Nat.reduceEqDiff, reduceCtorEq, AS, t0, t1, t2, t8, t9]
    refine ⟨⟨B.grown hg7 B.size (fun b hb => by cases hb; exact obw), Nat.le_trans S hg7.size, i + 1, _, _, rfl, by omega, og7, by rw [List.length_set]; exact lG, hL.grown hobl hg7, by rw [List.length_append, lE]; rfl, fun j hj => ?_⟩, by omega⟩
    by_cases hji : j = i
    · subst hji
      refine ⟨q, by rw [List.getElem?_append_right (by omega), lE, Nat.sub_self]; rfl, ?_⟩
      rw [Hj_set iG, if_pos rfl, hsub]
    · obtain ⟨e, he1, he2⟩ := hE j (by omega)
      exact ⟨e, by rw [List.getElem?_append_left (by omega)]; exact he1, by rw [Hj_set iG, if_neg hji]; exact he2⟩
  have hin' : i = hin.length := by omega
  generalize hN : hin.length = n at *
  subst hin'
  have gT : ∀ j (hj : j < G.length), ∃ e, E[j]? = some (e, R j) ∧ Cell.v G[j] = e := fun j hj => by
    obtain ⟨e, he1, he2⟩ := hE j (by omega)
    exact ⟨e, he1, by rw [← Hj_get hj]; exact he2⟩
  have gb : ∀ j (hj : j < G.length) b, Fw.blk (Cell.v G[j]) = some b → w1.heap.size ≤ b ∧ b < w2.heap.size := fun j hj b hb => by
    obtain ⟨e, he1, he2⟩ := gT j hj
    rw [he2] at hb
    exact (hL.ow j _ he1).blk b hb
  have hap : Apart out G := ⟨fun x c hx hc b hxc hb1 hb2 => by
    obtain ⟨e, he1, he2⟩ := gT x hx
    obtain ⟨f, hf1, hf2⟩ := gT c hc
    rw [he2] at hb1
    rw [hf2] at hb2
    exact hL.ap x c _ _ b he1 hf1 hxc hb1 hb2, fun x hx b hb1 hb2 => by
    have := (gb x hx b hb1).1
    have := (oob b hb2).2
    omega⟩
  have hown : ∀ x (hx : x < G.length), Ow w.heap.size w2 (Cell.v G[x]) ((RL R i).getD x []) := fun x hx => by
    obtain ⟨e, he1, he2⟩ := gT x hx
    rw [RL_get (by omega), he2]
    exact (hL.ow x _ he1).mono B1s
  have hans0 : Ans w w2 out G R := by
    refine ⟨og.sl, fun x hx => ?_, fun x hx b hb => by have := (gb x hx b hb).1; omega, fun b hb => (oob b hb).1⟩
    have := (hown x hx).sl
    rwa [RL_get (by omega)] at this
  have hsl := h2.sl
  simp (maxSteps := 1000000) (disch := omega) only [WS, List.getElem_cons_zero, List.getElem_cons_succ, Option.isNone_some, Option.isNone_none, List.getD_cons_zero, List.getD_cons_succ, I.at, atL, atO, atP, evp, evs, retV, ↓reduceIte, Nat.reduceEqDiff, reduceCtorEq, AS, t0, t1, t2, t8, t9, hsl.Xlen, hN]
  refine X_call0 ((culletref14_Power_spec w2 _).mono ?_)
  rintro _ w' ⟨rfl, rfl⟩
  cases hP : isP (i : Int) with
  | false =>
    simp (maxSteps := 1000000) (disch := omega) only [WS, List.getElem_cons_zero, List.getElem_cons_succ, Option.isNone_some, Option.isNone_none, List.getD_cons_zero, List.getD_cons_succ, I.at, atL, atO, atP, evp, evs, retV, ↓reduceIte, Nat.reduceEqDiff, reduceCtorEq, AS, t0, t1, t2, t8, t9]
    exact ⟨B, _, G, R, 130, rfl, lG, hans0, Or.inr ⟨fun _ _ => rfl, Or.inl rfl⟩⟩
  | true =>
    obtain ⟨k, hk, hik⟩ := (isP_iff _).1 hP
    have hik : i = 2 ^ k := by omega
    have hp0 := Nat.two_pow_pos k
    have hp16 := pow_le16 hk
    have i0 : 0 < hin.length := by omega
    simp (maxSteps := 1000000) (disch := omega) only [WS, List.getElem_cons_zero, List.getElem_cons_succ, Option.isNone_some, Option.isNone_none, List.getD_cons_zero, List.getD_cons_succ, I.at, atL, atO, atP, evp, evs, retV, ↓reduceIte, Nat.reduceEqDiff, reduceCtorEq, AS, t0, t1, t2, t8, t9]
    refine loop_of (fun t w3 => t 0 = s ∧ t 1 = .int .i64 a ∧ t 2 = .bool true ∧ t 8 = out ∧ RowKit.Below w'.heap.size w' w3 ∧ ∃ j : Nat, t 10 = .int .i64 (j : Int) ∧ j ≤ i ∧ ∀ x, x < j → (R x).length = (R 0).length) (fun t _ => i - (toI (t 10)).toNat)
      ⟨by simp only [WS, List.getElem_cons_zero, List.getElem_cons_succ, Option.isNone_some, Option.isNone_none, List.getD_cons_zero, List.getD_cons_succ, I.at, atL, atO, atP, evp, evs, retV, ↓reduceIte, Nat.reduceEqDiff, reduceCtorEq]; exact t0, by simp only [WS, List.getElem_cons_zero, List.getElem_cons_succ, Option.isNone_some, Option.isNone_none, List.getD_cons_zero, List.getD_cons_succ, I.at, atL, atO, atP, evp, evs, retV, ↓reduceIte, Nat.reduceEqDiff, reduceCtorEq]; exact t1, by simp only [WS, List.getElem_cons_zero, List.getElem_cons_succ, Option.isNone_some, Option.isNone_none, List.getD_cons_zero, List.getD_cons_succ, I.at, atL, atO, atP, evp, evs, retV, ↓reduceIte, Nat.reduceEqDiff, reduceCtorEq]; exact t2, by simp only [WS, List.getElem_cons_zero, List.getElem_cons_succ, Option.isNone_some, Option.isNone_none, List.getD_cons_zero, List.getD_cons_succ, I.at, atL, atO, atP, evp, evs, retV, ↓reduceIte, Nat.reduceEqDiff, reduceCtorEq]; exact t8, RowKit.Below.refl _ _, 0, rfl, by omega, fun x hx => by omega⟩ ?_
    clear t0 t1 t2 t8 t9
    rintro t w3 ⟨t0, t1, t2, t8, C, j, t10, hj, hall⟩
    have h3 := h2.up C
    have hq0 : ∃ q, q = (R 0).length := ⟨_, rfl⟩
    by_cases hji : j < i
    · have jh : j < hin.length := by omega
      have hd := h3.sl.drew
      have hrj := (h3.row j jh).drew
      have hr0 := (h3.row 0 i0).drew
      have C1 : RowKit.Below w'.heap.size w' w3.drew := C.trans ((bel_drew w3).mono C.size)
      simp (maxSteps := 1000000) (disch := omega) only [WS, List.getElem_cons_zero, List.getElem_cons_succ, Option.isNone_some, Option.isNone_none, List.getD_cons_zero, List.getD_cons_succ, I.at, atL, atO, atP, evp, evs, retV, ↓reduceIte, Nat.reduceEqDiff, reduceCtorEq, AS, t0, t1, t2, t8, t10, h3.sl.Xlen, hN]
      refine WP_dops ?_
      by_cases hn : (R j).length = (R 0).length
      · have d1 : decide (((R j).length : Int) = ((R 0).length : Int)) = true := decide_eq_true (by omega)
        simp (maxSteps := 1000000) (disch := omega) only [ES, List.mem_cons, List.not_mem_nil, implies_true, forall_const, WS, List.getElem_cons_zero, List.getElem_cons_succ, Option.isNone_some, Option.isNone_none, List.getD_cons_zero, List.getD_cons_succ, I.at, atL, atO, atP, evp, evs, retV, ↓reduceIte, Nat.reduceEqDiff, reduceCtorEq, AS, t0, t1, t2, t8, t10, hd.Eix jh, hd.Eld jh, hd.Eix0 i0, hd.Eld i0, hrj.Elen, hr0.Elen, d1]
        refine ⟨⟨C1, j + 1, rfl, by omega, fun x hx => ?_⟩, by omega⟩
        by_cases hxj : x = j
        · subst hxj; exact hn
        · exact hall x (by omega)
      · have d1 : decide (((R j).length : Int) = ((R 0).length : Int)) = false := decide_eq_false (by omega)
        simp (maxSteps := 1000000) (disch := omega) only [ES, List.mem_cons, List.not_mem_nil, implies_true, forall_const, WS, List.getElem_cons_zero, List.getElem_cons_succ, Option.isNone_some, Option.isNone_none, List.getD_cons_zero, List.getD_cons_succ, I.at, atL, atO, atP, evp, evs, retV, ↓reduceIte, Nat.reduceEqDiff, reduceCtorEq, AS, t0, t1, t2, t8, t10, hd.Eix jh, hd.Eld jh, hd.Eix0 i0, hd.Eld i0, hrj.Elen, hr0.Elen, d1]
        exact ⟨B.trans (C1.mono B.size), _, G, R, 6, rfl, lG, hans0.up C1, Or.inr ⟨fun _ _ => rfl, Or.inr (Or.inl ⟨fun ⟨q, hq⟩ => hn ((hq j hji).trans (hq 0 (by omega)).symm), rfl⟩)⟩⟩
    · have hall : ∀ x, x < i → (R x).length = (R 0).length := fun x hx => hall x (by omega)
      have B3 := B.trans (C.mono B.size)
      simp (maxSteps := 1000000) (disch := omega) only [WS, List.getElem_cons_zero, List.getElem_cons_succ, Option.isNone_some, Option.isNone_none, List.getD_cons_zero, List.getD_cons_succ, I.at, atL, atO, atP, evp, evs, retV, ↓reduceIte, Nat.reduceEqDiff, reduceCtorEq, AS, t0, t1, t2, t8, t10, h3.sl.Xlen, hN]
      refine X_call0 ((culletref14_Coset_spec w3 a i i (by omega) (by omega)).mono ?_)
      rintro _ w4 ⟨rfl, rfl⟩
      cases hC : isC a i i with
      | false =>
        simp (maxSteps := 1000000) (disch := omega) only [WS, List.getElem_cons_zero, List.getElem_cons_succ, Option.isNone_some, Option.isNone_none, List.getD_cons_zero, List.getD_cons_succ, I.at, atL, atO, atP, evp, evs, retV, ↓reduceIte, Nat.reduceEqDiff, reduceCtorEq, AS, t0, t1, t2, t8, t10]
        exact ⟨B3, _, G, R, 140, rfl, lG, hans0.up C, Or.inr ⟨fun _ _ => rfl, Or.inr (Or.inr ⟨⟨_, hall⟩, rfl⟩)⟩⟩
      | true =>
        have hC2 := hC
        rw [hik] at hC2
        obtain ⟨A, rfl, hA1, hA2⟩ := isC_nat hC
        simp (maxSteps := 1000000) (disch := omega) only [WS, List.getElem_cons_zero, List.getElem_cons_succ, Option.isNone_some, Option.isNone_none, List.getD_cons_zero, List.getD_cons_succ, I.at, atL, atO, atP, evp, evs, retV, ↓reduceIte, Nat.reduceEqDiff, reduceCtorEq, AS, t0, t1, t2, t8, t10]
        refine X_call0 ((culletref03_Elements_spec2 w4).mono ?_)
        rintro sw w5 ⟨WL, hw, hwb, hB⟩
        generalize hF : (fun u : World => RowKit.Below w.heap.size w u ∧ Wls u sw WL ∧ w'.heap.size ≤ u.heap.size) = F
        have hF5 : F w5 := by rw [← hF]; exact ⟨B3.trans (hB.mono B3.size), hw, Nat.le_trans C.size hB.size⟩
        have hFrm : Frm F (fun b => w.heap.size ≤ b ∧ b < w'.heap.size) := by
          rw [← hF]
          refine ⟨fun u u' b hu hb hg => ⟨hu.1.grown hg hu.1.size (fun c hc => by cases hc; exact hb.1), ⟨hu.2.1.sl.grown hg (Or.inl fun e => ?_), hu.2.1.ln, hu.2.1.at'⟩, Nat.le_trans hu.2.2 hg.size⟩, fun u u' hu hB => ⟨hu.1.trans (hB.mono hu.1.size), hu.2.1.up hB, Nat.le_trans hu.2.2 hB.size⟩⟩
          have := hwb b e
          have := C.size
          omega
        have hFo : ∀ u, F u → RowKit.Below w.heap.size w u ∧ Wls u sw WL ∧ w'.heap.size ≤ u.heap.size := fun u hu => by rw [← hF] at hu; exact hu
        clear hF
        have hDb : ∀ x (hx : x < G.length) b, Fw.blk (Cell.v G[x]) = some b → w.heap.size ≤ b ∧ b < w'.heap.size := fun x hx b hb => by have := gb x hx b hb; omega
        have C5 : RowKit.Below w'.heap.size w' w5 := C.trans (hB.mono C.size)
        have hM0 : Rof w.heap.size F out G (RL R i) w5 := ⟨by rw [RL_len]; omega, fun x hx => (hown x hx).up C5, og.sl.up C5, hF5, (hFo w5 hF5).1.size⟩
        obtain ⟨q, hq⟩ : ∃ q, q = (R 0).length := ⟨_, rfl⟩
        have hqq : ∀ x, x < i → (R x).length = q := fun x hx => by rw [hq]; exact hall x hx
        have hq0 := hqq 0 (by omega)
        have hqb : q ≤ 70368744175616 := by rw [hq]; exact h.len 0 i0
        simp (maxSteps := 1000000) (disch := omega) only [WS, List.getElem_cons_zero, List.getElem_cons_succ, Option.isNone_some, Option.isNone_none, List.getD_cons_zero, List.getD_cons_succ, I.at, atL, atO, atP, evp, evs, retV, ↓reduceIte, Nat.reduceEqDiff, reduceCtorEq, AS, t0, t1, t2, t8, t10]
        refine loop_of (fun t u => t 0 = s ∧ t 1 = .int .i64 (A : Int) ∧ t 2 = .bool true ∧ t 8 = out ∧ t 11 = sw ∧ ∃ (c : Nat) (W : List (List (El 16))), t 12 = .int .i64 (c : Int) ∧ c ≤ q ∧ Rof w.heap.size F out G W u ∧ (∀ x, x < i → (W.getD x []).length = q) ∧ ∀ x y, x < i → (co (W.getD x [])).c y = if y < c then itI A k (fun x => (co (R x)).c y) x else (co (R x)).c y)
          (fun t _ => q - (toI (t 12)).toNat) ⟨by simp only [WS, List.getElem_cons_zero, List.getElem_cons_succ, Option.isNone_some, Option.isNone_none, List.getD_cons_zero, List.getD_cons_succ, I.at, atL, atO, atP, evp, evs, retV, ↓reduceIte, Nat.reduceEqDiff, reduceCtorEq]; exact t0, by simp only [WS, List.getElem_cons_zero, List.getElem_cons_succ, Option.isNone_some, Option.isNone_none, List.getD_cons_zero, List.getD_cons_succ, I.at, atL, atO, atP, evp, evs, retV, ↓reduceIte, Nat.reduceEqDiff, reduceCtorEq]; exact t1, by simp only [WS, List.getElem_cons_zero, List.getElem_cons_succ, Option.isNone_some, Option.isNone_none, List.getD_cons_zero, List.getD_cons_succ, I.at, atL, atO, atP, evp, evs, retV, ↓reduceIte, Nat.reduceEqDiff, reduceCtorEq]; exact t2, by simp only [WS, List.getElem_cons_zero, List.getElem_cons_succ, Option.isNone_some, Option.isNone_none, List.getD_cons_zero, List.getD_cons_succ, I.at, atL, atO, atP, evp, evs, retV, ↓reduceIte, Nat.reduceEqDiff, reduceCtorEq]; exact t8, by simp only [WS, List.getElem_cons_zero, List.getElem_cons_succ, Option.isNone_some, Option.isNone_none, List.getD_cons_zero, List.getD_cons_succ, I.at, atL, atO, atP, evp, evs, retV, ↓reduceIte, Nat.reduceEqDiff, reduceCtorEq], 0, _, rfl, by omega, hM0, fun x hx => by rw [RL_get hx]; exact hqq x hx, fun x y hx => by rw [RL_get hx, if_neg (by omega)]⟩ ?_
        clear t0 t1 t2 t8 t10 hM0 hF5
        rintro t w6 ⟨t0, t1, t2, t8, t11, c, W, t12, hc, hM, hWl, hW⟩
        obtain ⟨B6, hw6, S6⟩ := hFo _ hM.2.2.2.1
        have h6 := h.up B6
        by_cases hcq : c < q
        · simp (maxSteps := 1000000) (disch := omega) only [WS, List.getElem_cons_zero, List.getElem_cons_succ, Option.isNone_some, Option.isNone_none, List.getD_cons_zero, List.getD_cons_succ, I.at, atL, atO, atP, evp, evs, retV, ↓reduceIte, Nat.reduceEqDiff, reduceCtorEq, AS, t0, t1, t2, t8, t11, t12, h6.sl.Xix0 i0, h6.sl.Xld i0, (h6.row 0 i0).Xlen, hq0, h6.sl.Xlen, hN]
          refine X_mks (x := (0 : El 16)) (by simp only [maxBytes]; omega) (by omega) fun p w7 op hB7 => ?_
          simp (maxSteps := 1000000) (disch := omega) only [WS, List.getElem_cons_zero, List.getElem_cons_succ, Option.isNone_some, Option.isNone_none, List.getD_cons_zero, List.getD_cons_succ, I.at, atL, atO, atP, evp, evs, retV, ↓reduceIte, Nat.reduceEqDiff, reduceCtorEq, AS, t0, t1, t2, t8, t11, t12]
          refine loop_of (fun t u => t 0 = s ∧ t 1 = .int .i64 (A : Int) ∧ t 2 = .bool true ∧ t 8 = out ∧ t 11 = sw ∧ t 12 = .int .i64 (c : Int) ∧ t 13 = p ∧ RowKit.Below w6.heap.size w6 u ∧ ∃ (j : Nat) (L : List (El 16)), t 14 = .int .i64 (j : Int) ∧ j ≤ i ∧ Ow w6.heap.size u p L ∧ L.length = i ∧ ∀ x, x < j → (co L).c x = (co (R x)).c c)
            (fun t _ => i - (toI (t 14)).toNat) ⟨by simp only [WS, List.getElem_cons_zero, List.getElem_cons_succ, Option.isNone_some, Option.isNone_none, List.getD_cons_zero, List.getD_cons_succ, I.at, atL, atO, atP, evp, evs, retV, ↓reduceIte, Nat.reduceEqDiff, reduceCtorEq]; exact t0, by simp only [WS, List.getElem_cons_zero, List.getElem_cons_succ, Option.isNone_some, Option.isNone_none, List.getD_cons_zero, List.getD_cons_succ, I.at, atL, atO, atP, evp, evs, retV, ↓reduceIte, Nat.reduceEqDiff, reduceCtorEq]; exact t1, by simp only [WS, List.getElem_cons_zero, List.getElem_cons_succ, Option.isNone_some, Option.isNone_none, List.getD_cons_zero, List.getD_cons_succ, I.at, atL, atO, atP, evp, evs, retV, ↓reduceIte, Nat.reduceEqDiff, reduceCtorEq]; exact t2, by simp only [WS, List.getElem_cons_zero, List.getElem_cons_succ, Option.isNone_some, Option.isNone_none, List.getD_cons_zero, List.getD_cons_succ, I.at, atL, atO, atP, evp, evs, retV, ↓reduceIte, Nat.reduceEqDiff, reduceCtorEq]; exact t8, by simp only [WS, List.getElem_cons_zero, List.getElem_cons_succ, Option.isNone_some, Option.isNone_none, List.getD_cons_zero, List.getD_cons_succ, I.at, atL, atO, atP, evp, evs, retV, ↓reduceIte, Nat.reduceEqDiff, reduceCtorEq]; exact t11, by simp only [WS, List.getElem_cons_zero, List.getElem_cons_succ, Option.isNone_some, Option.isNone_none, List.getD_cons_zero, List.getD_cons_succ, I.at, atL, atO, atP, evp, evs, retV, ↓reduceIte, Nat.reduceEqDiff, reduceCtorEq]; exact t12, by simp only [WS, List.getElem_cons_zero, List.getElem_cons_succ, Option.isNone_some, Option.isNone_none, List.getD_cons_zero, List.getD_cons_succ, I.at, atL, atO, atP, evp, evs, retV, ↓reduceIte, Nat.reduceEqDiff, reduceCtorEq], hB7, 0, _, rfl, by omega, op, by simp, fun x hx => by omega⟩ ?_
          clear t0 t1 t2 t8 t11 t12 hB7 op
          rintro t w8 ⟨t0, t1, t2, t8, t11, t12, t13, C8, j, L, t14, hj, op, lL, hL⟩
          have h8 := h6.up C8
          by_cases hji : j < i
          · have jh : j < hin.length := by omega
            have jL : j < L.length := by omega
            have cr : c < (R j).length := by rw [hqq j hji]; exact hcq
            simp (maxSteps := 1000000) (disch := omega) only [WS, List.getElem_cons_zero, List.getElem_cons_succ, Option.isNone_some, Option.isNone_none, List.getD_cons_zero, List.getD_cons_succ, I.at, atL, atO, atP, evp, evs, retV, ↓reduceIte, Nat.reduceEqDiff, reduceCtorEq, AS, t0, t1, t2, t8, t11, t12, t13, t14, h8.sl.Xlen, hN, h8.sl.Xix jh, h8.sl.Xld jh, (h8.row j jh).Xix cr, (h8.row j jh).Xld cr, cell_e16, op.sl.Xix jL]
            refine op.Xst jL ((R j)[c]) fun w9 op9 hg9 => ?_
            simp (maxSteps := 1000000) (disch := omega) only [WS, List.getElem_cons_zero, List.getElem_cons_succ, Option.isNone_some, Option.isNone_none, List.getD_cons_zero, List.getD_cons_succ, I.at, atL, atO, atP, evp, evs, retV, ↓reduceIte, Nat.reduceEqDiff, reduceCtorEq, AS, t0, t1, t2, t8, t11, t12, t13, t14]
            refine ⟨⟨C8.grown hg9 C8.size (fun b hb => (op.blk b hb).1), j + 1, _, rfl, by omega, op9, by rw [List.length_set]; exact lL, fun x hx => ?_⟩, by omega⟩
            rw [co_set _ jL]
            by_cases hxj : x = j
            · subst hxj; rw [if_pos rfl, co_get _ cr]
            · rw [if_neg hxj]; exact hL x (by omega)
          · have hL : ∀ x, x < i → (co L).c x = (co (R x)).c c := fun x hx => hL x (by omega)
            simp (maxSteps := 1000000) (disch := omega) only [WS, List.getElem_cons_zero, List.getElem_cons_succ, Option.isNone_some, Option.isNone_none, List.getD_cons_zero, List.getD_cons_succ, I.at, atL, atO, atP, evp, evs, retV, ↓reduceIte, Nat.reduceEqDiff, reduceCtorEq, AS, t0, t1, t2, t8, t11, t12, t13, t14, h8.sl.Xlen, hN]
            refine X_call0 ((culletref14_coefficients_spec k w8 p sw A L WL op.sl (by omega) hk (by rw [← hik]; exact hA1) (by rw [← hik]; exact hA2) (hw6.up C8)).mono ?_)
            rintro sv w9 ⟨m, om, lm, cm, hB9⟩
            have C9 := C8.trans (hB9.mono C8.size)
            have omb : ∀ b, Fw.blk sv = some b → w8.heap.size ≤ b := fun b hb => (om.blk b hb).1
            have hFrm2 : Frm (fun u => F u ∧ Sl u sv m) (fun b => w.heap.size ≤ b ∧ b < w'.heap.size) := by
              refine ⟨fun u u' b hu hb hg => ⟨hFrm.gr u u' b hu.1 hb hg, hu.2.grown hg (Or.inl fun e => ?_)⟩, fun u u' hu hB => ⟨hFrm.up u u' hu.1 hB, hu.2.up hB⟩⟩
              have h1 := omb b e
              have h2 := C8.size
              omega
            have hR := Rof.rws (α := El 16) (B := w.heap.size) hap hFrm2 hDb
            have hM9 : Rof w.heap.size (fun u => F u ∧ Sl u sv m) out G W w9 := ⟨hM.1, fun x hx => (hM.2.1 x hx).up C9, hM.2.2.1.up C9, ⟨hFrm.up _ _ hM.2.2.2.1 C9, om.sl⟩, Nat.le_trans hM.2.2.2.2 C9.size⟩
            simp (maxSteps := 1000000) (disch := omega) only [WS, List.getElem_cons_zero, List.getElem_cons_succ, Option.isNone_some, Option.isNone_none, List.getD_cons_zero, List.getD_cons_succ, I.at, atL, atO, atP, evp, evs, retV, ↓reduceIte, Nat.reduceEqDiff, reduceCtorEq, AS, t0, t1, t2, t8, t11, t12, t13, t14]
            refine loop_of (fun t u => t 0 = s ∧ t 1 = .int .i64 (A : Int) ∧ t 2 = .bool true ∧ t 8 = out ∧ t 11 = sw ∧ t 12 = .int .i64 (c : Int) ∧ t 13 = sv ∧ ∃ (j : Nat) (W' : List (List (El 16))), t 15 = .int .i64 (j : Int) ∧ j ≤ i ∧ Rof w.heap.size (fun u => F u ∧ Sl u sv m) out G W' u ∧ (∀ x, x < i → (W'.getD x []).length = q) ∧ ∀ x y, x < i → (co (W'.getD x [])).c y = if x < j ∧ y = c then (co m).c x else (co (W.getD x [])).c y)
              (fun t _ => i - (toI (t 15)).toNat) ⟨by simp only [WS, List.getElem_cons_zero, List.getElem_cons_succ, Option.isNone_some, Option.isNone_none, List.getD_cons_zero, List.getD_cons_succ, I.at, atL, atO, atP, evp, evs, retV, ↓reduceIte, Nat.reduceEqDiff, reduceCtorEq]; exact t0, by simp only [WS, List.getElem_cons_zero, List.getElem_cons_succ, Option.isNone_some, Option.isNone_none, List.getD_cons_zero, List.getD_cons_succ, I.at, atL, atO, atP, evp, evs, retV, ↓reduceIte, Nat.reduceEqDiff, reduceCtorEq]; exact t1, by simp only [WS, List.getElem_cons_zero, List.getElem_cons_succ, Option.isNone_some, Option.isNone_none, List.getD_cons_zero, List.getD_cons_succ, I.at, atL, atO, atP, evp, evs, retV, ↓reduceIte, Nat.reduceEqDiff, reduceCtorEq]; exact t2, by simp only [WS, List.getElem_cons_zero, List.getElem_cons_succ, Option.isNone_some, Option.isNone_none, List.getD_cons_zero, List.getD_cons_succ, I.at, atL, atO, atP, evp, evs, retV, ↓reduceIte, Nat.reduceEqDiff, reduceCtorEq]; exact t8, by simp only [WS, List.getElem_cons_zero, List.getElem_cons_succ, Option.isNone_some, Option.isNone_none, List.getD_cons_zero, List.getD_cons_succ, I.at, atL, atO, atP, evp, evs, retV, ↓reduceIte, Nat.reduceEqDiff, reduceCtorEq]; exact t11, by simp only [WS, List.getElem_cons_zero, List.getElem_cons_succ, Option.isNone_some, Option.isNone_none, List.getD_cons_zero, List.getD_cons_succ, I.at, atL, atO, atP, evp, evs, retV, ↓reduceIte, Nat.reduceEqDiff, reduceCtorEq]; exact t12, by simp only [WS, List.getElem_cons_zero, List.getElem_cons_succ, Option.isNone_some, Option.isNone_none, List.getD_cons_zero, List.getD_cons_succ, I.at, atL, atO, atP, evp, evs, retV, ↓reduceIte, Nat.reduceEqDiff, reduceCtorEq], 0, W, rfl, by omega, hM9, hWl, fun x y hx => by rw [if_neg (by omega)]⟩ ?_
            clear t0 t1 t2 t8 t11 t12 t13 t14 hM9
            rintro t w10 ⟨t0, t1, t2, t8, t11, t12, t13, j, W', t15, hj, hM', hWl', hW'⟩
            obtain ⟨B10, -, -⟩ := hFo _ hM'.2.2.2.1.1
            have h10 := h.up B10
            by_cases hji : j < i
            · have jG : j < G.length := by omega
              have jm : j < m.length := by omega
              have jW : j < W'.length := by rw [hM'.1]; omega
              have cw : c < (W'.getD j []).length := by rw [hWl' j hji]; exact hcq
              have Wj := hR.wr W' j jG hM'.1
              have hMd : Rof w.heap.size (fun u => F u ∧ Sl u sv m) out G (W'.set j (W'.getD j [])) w10.drew := by rw [set_getD W' jW]; exact hR.up _ _ _ hM' (bel_drew w10)
              have so := hM'.2.2.1.drew
              have sm := hM'.2.2.2.1.2.drew
              have sr := (hM'.2.1 j jG).sl.drew
              simp (maxSteps := 1000000) (disch := omega) only [WS, List.getElem_cons_zero, List.getElem_cons_succ, Option.isNone_some, Option.isNone_none, List.getD_cons_zero, List.getD_cons_succ, I.at, atL, atO, atP, evp, evs, retV, ↓reduceIte, Nat.reduceEqDiff, reduceCtorEq, AS, t0, t1, t2, t8, t11, t12, t13, t15, h10.sl.Xlen, hN]
              refine WP_dops ?_
              simp (maxSteps := 1000000) (disch := omega) only [ES, List.mem_cons, List.not_mem_nil, implies_true, forall_const, WS, List.getElem_cons_zero, List.getElem_cons_succ, Option.isNone_some, Option.isNone_none, List.getD_cons_zero, List.getD_cons_succ, I.at, atL, atO, atP, evp, evs, retV, ↓reduceIte, Nat.reduceEqDiff, reduceCtorEq, AS, t0, t1, t2, t8, t11, t12, t13, t15, so.Eix jG, so.Eld jG, sm.Eix jm, sm.Eld jm, cell_e16, sr.Eix cw]
              refine Wj.Est hMd cw m[j] fun w11 hM11 hg11 => ?_
              simp (maxSteps := 1000000) (disch := omega) only [ES, List.mem_cons, List.not_mem_nil, implies_true, forall_const, WS, List.getElem_cons_zero, List.getElem_cons_succ, Option.isNone_some, Option.isNone_none, List.getD_cons_zero, List.getD_cons_succ, I.at, atL, atO, atP, evp, evs, retV, ↓reduceIte, Nat.reduceEqDiff, reduceCtorEq, AS, t0, t1, t2, t8, t11, t12, t13, t15]
              refine ⟨⟨j + 1, _, rfl, by omega, hM11, fun x hx => ?_, fun x y hx => ?_⟩, by omega⟩
              · rw [getD_setL W' jW]
                by_cases hxj : x = j
                · rw [if_pos hxj, List.length_set]; exact hWl' j hji
                · rw [if_neg hxj]; exact hWl' x hx
              · rw [getD_setL W' jW]
                by_cases hxj : x = j
                · subst hxj
                  rw [if_pos rfl, co_set _ cw]
                  by_cases hyc : y = c
                  · rw [if_pos hyc, if_pos ⟨by omega, hyc⟩, co_get m jm]
                  · rw [if_neg hyc, hW' x y hx, if_neg (by omega), if_neg (by omega)]
                · rw [if_neg hxj, hW' x y hx]
                  have : (x < j + 1 ∧ y = c) = (x < j ∧ y = c) := propext ⟨fun h => ⟨by omega, h.2⟩, fun h => ⟨by omega, h.2⟩⟩
                  simp only [this]
            · have hW2 : ∀ x y, x < i → (co (W'.getD x [])).c y = if y = c then (co m).c x else (co (W.getD x [])).c y := fun x y hx => by
                rw [hW' x y hx]
                by_cases hyc : y = c
                · rw [if_pos ⟨by omega, hyc⟩, if_pos hyc]
                · rw [if_neg (fun h => hyc h.2), if_neg hyc]
              simp (maxSteps := 1000000) (disch := omega) only [WS, List.getElem_cons_zero, List.getElem_cons_succ, Option.isNone_some, Option.isNone_none, List.getD_cons_zero, List.getD_cons_succ, I.at, atL, atO, atP, evp, evs, retV, ↓reduceIte, Nat.reduceEqDiff, reduceCtorEq, AS, t0, t1, t2, t8, t11, t12, t13, t15, h10.sl.Xlen, hN]
              refine ⟨⟨c + 1, W', rfl, by omega, ⟨hM'.1, hM'.2.1, hM'.2.2.1, hM'.2.2.2.1.1, hM'.2.2.2.2⟩, hWl', fun x y hx => ?_⟩, by omega⟩
              rw [hW2 x y hx]
              by_cases hyc : y = c
              · subst hyc
                rw [if_pos rfl, if_pos (by omega), cm x (by omega)]
                exact itI_loc (n := i) (by rw [hik]; exact Nat.mod_self _) hL x hx
              · rw [if_neg hyc, hW x y hx]
                by_cases hy2 : y < c
                · rw [if_pos hy2, if_pos (by omega)]
                · rw [if_neg hy2, if_neg (by omega)]
        · obtain rfl : c = q := by omega
          simp (maxSteps := 1000000) (disch := omega) only [WS, List.getElem_cons_zero, List.getElem_cons_succ, Option.isNone_some, Option.isNone_none, List.getD_cons_zero, List.getD_cons_succ, I.at, atL, atO, atP, evp, evs, retV, ↓reduceIte, Nat.reduceEqDiff, reduceCtorEq, AS, t0, t1, t2, t8, t11, t12, h6.sl.Xix0 i0, h6.sl.Xld i0, (h6.row 0 i0).Xlen, hq0]
          refine ⟨B6, _, G, fun x => W.getD x [], 0, rfl, lG, Ans.of hM rfl (fun b hb => (oob b hb).1), Or.inl ⟨k, c, hk, hik, hC2, fun x hx => hqq x (by omega), rfl, fun x hx => hWl x (by omega), fun x y hx => ?_⟩⟩
          rw [hW x y (by omega), Int.toNat_natCast]
          by_cases hy : y < c
          · rw [if_pos hy]
          · rw [if_neg hy, co_dg _ y (by rw [hqq x (by omega)]; omega)]
            have hz : ∀ x, x < i → (fun x => (co (R x)).c y) x = (fun _ => (0 : El 16)) x := fun x hx => co_dg _ y (by rw [hqq x hx]; omega)
            rw [itI_loc (n := i) (by rw [hik]; exact Nat.mod_self _) hz x (by omega), itI_zero]
end Go.Proofs.Ytpmfeaajpjjfiaa.Fw

set_option linter.unusedVariables false
set_option linter.unusedSimpArgs false
set_option maxRecDepth 100000
set_option maxHeartbeats 1000000
namespace Go.Proofs.Ytpmfeaajpjjfiaa.Fw
open Go Go.Fw Go.Proofs
attribute [local irreducible] stepI
def c_culletlaw14_kept : C := .seq (.ops [⟨0, (some 4), none, .mov (.c (.bool false)), []⟩]) (.seq (.seq (.ops [⟨0, (some 5), none, .mov (.c (.int .i64 0)), []⟩]) (.block 0 (.loop (.seq (.seq (.ops [⟨0, (some 9), none, .mov (.t 5), []⟩, ⟨1, (some 10), none, .mov (.t 0), []⟩, ⟨2, (some 11), none, .len (.t 10), []⟩, ⟨3, (some 12), none, .bin .lss (.t 9) (.t 11), []⟩]) (.ite (.t 12) .skip (.exit 0))) (.seq (.block 1 (.seq (.ops [⟨0, (some 15), none, .mov (.t 0), []⟩, ⟨1, (some 16), none, .mov (.t 5), []⟩, ⟨2, (some 17), none, .ixs 1 (.t 15) (.t 16), []⟩, ⟨3, (some 18), none, .ld (.t 17), []⟩, ⟨4, (some 19), none, .len (.t 18), []⟩, ⟨5, (some 6), none, .mov (.t 19), []⟩]) (.seq (.ops [⟨0, (some 20), none, .mov (.t 0), []⟩, ⟨1, (some 21), none, .mov (.t 5), []⟩, ⟨2, (some 22), none, .ixs 1 (.t 20) (.t 21), []⟩, ⟨3, (some 23), none, .ld (.t 22), []⟩, ⟨4, (some 24), none, .mov (.t 6), []⟩, ⟨5, (some 25), none, .bin .add (.t 24) (.c (.int .i64 3)), []⟩, ⟨6, (some 26), none, .slc 1 (.t 23) none (some (.t 25)) none, []⟩, ⟨7, (some 7), none, .mov (.t 26), []⟩]) (.seq (.ops [⟨0, (some 27), none, .mov (.t 7), []⟩, ⟨1, (some 28), none, .mov (.t 6), []⟩, ⟨2, (some 29), none, .ixs 1 (.t 27) (.t 28), []⟩, ⟨3, (some 30), none, .ld (.t 29), []⟩, ⟨4, (some 31), none, .bin .neq (.t 30) (.c (.int .u16 71)), []⟩, ⟨5, (some 32), none, .mov (.t 31), []⟩, ⟨6, (some 33), (some (32, false)), .mov (.t 7), []⟩, ⟨7, (some 34), (some (32, false)), .mov (.t 6), []⟩, ⟨8, (some 35), (some (32, false)), .bin .add (.t 34) (.c (.int .i64 1)), []⟩, ⟨9, (some 36), (some (32, false)), .ixs 1 (.t 33) (.t 35), []⟩, ⟨10, (some 37), (some (32, false)), .ld (.t 36), []⟩, ⟨11, (some 38), (some (32, false)), .bin .neq (.t 37) (.c (.int .u16 72)), []⟩, ⟨12, (some 39), none, .pick (.t 32) (.c (.bool true)) (.t 38), []⟩, ⟨13, (some 40), none, .mov (.t 39), []⟩, ⟨14, (some 41), (some (40, false)), .mov (.t 7), []⟩, ⟨15, (some 42), (some (40, false)), .mov (.t 6), []⟩, ⟨16, (some 43), (some (40, false)), .bin .add (.t 42) (.c (.int .i64 2)), []⟩, ⟨17, (some 44), (some (40, false)), .ixs 1 (.t 41) (.t 43), []⟩, ⟨18, (some 45), (some (40, false)), .ld (.t 44), []⟩, ⟨19, (some 46), (some (40, false)), .bin .neq (.t 45) (.c (.int .u16 73)), []⟩, ⟨20, (some 47), none, .pick (.t 40) (.c (.bool true)) (.t 46), []⟩]) (.ite (.t 47) (.seq (.ops [⟨0, (some 4), none, .mov (.c (.bool false)), []⟩]) .ret) .skip))))) (.ops [⟨0, (some 13), none, .mov (.t 5), []⟩, ⟨1, (some 14), none, .bin .add (.t 13) (.c (.int .i64 1)), []⟩, ⟨2, (some 5), none, .mov (.t 14), []⟩])))))) (.seq (.ops [⟨0, (some 48), none, .mov (.t 1), []⟩, ⟨1, (some 49), none, .mov (.t 1), []⟩, ⟨2, (some 50), none, .len (.t 49), []⟩, ⟨3, (some 51), none, .bin .sub (.t 50) (.c (.int .i64 1)), []⟩, ⟨4, (some 52), none, .ixs 1 (.t 48) (.t 51), []⟩, ⟨5, (some 53), none, .ld (.t 52), []⟩, ⟨6, (some 8), none, .mov (.t 53), []⟩]) (.seq (.ops [⟨0, (some 54), none, .mov (.t 8), []⟩, ⟨1, (some 55), none, .len (.t 54), []⟩, ⟨2, (some 56), none, .bin .eql (.t 55) (.c (.int .i64 1)), []⟩, ⟨3, (some 57), none, .mov (.t 56), []⟩, ⟨4, (some 58), (some (57, true)), .mov (.t 8), []⟩, ⟨5, (some 59), (some (57, true)), .ixs 1 (.t 58) (.c (.int .i64 0)), []⟩, ⟨6, (some 60), (some (57, true)), .ld (.t 59), []⟩, ⟨7, (some 61), (some (57, true)), .bin .eql (.t 60) (.c (.int .u16 74)), []⟩, ⟨8, (some 62), none, .pick (.t 57) (.t 61) (.c (.bool false)), []⟩, ⟨9, (some 4), none, .mov (.t 62), []⟩]) .ret)))
attribute [irreducible] c_culletlaw14_kept
theorem run_culletlaw14_kept {args : List Value} {w : World} {K : Value → World → Prop} (hn : args.length ≤ 63) (h : WP Try.prog c_culletlaw14_kept (endQ [.t 4] K) (initT args) w) : CallV Try.prog 77 args w K :=
  call_of follows Try.func77 (by kernel_rfl) (by kernel_rfl) hn h
end Go.Proofs.Ytpmfeaajpjjfiaa.Fw
namespace Go.Proofs.Ytpmfeaajpjjfiaa.Fw
open Go Go.Fw
theorem culletlaw14_kept_spec (w : World) (B : Nat) (rs fs : Value) (hs : List Hd) (h4 : Hd) (V : Nat → List (El 16)) (h : Sl w rs hs) (hf : Sl w fs (hs ++ [h4])) (hr : ∀ i (hi : i < hs.length), OwT B w (Cell.v hs[i]) (V i) tl3) (h74 : Sl w (Cell.v h4) [(⟨74⟩ : El 16)]) (hn : hs.length ≤ 70368744175616) (hV : ∀ i, i < hs.length → (V i).length ≤ 70368744175616) :
    CallV Try.prog 77 [rs, fs] w fun v w' => v = .bool true ∧ w' = w := by
  refine run_culletlaw14_kept (by simp) ?_
  simp only [c_culletlaw14_kept, WS, List.getElem_cons_zero, List.getElem_cons_succ, Option.isNone_some, Option.isNone_none, List.getD_cons_zero, List.getD_cons_succ, I.at, atL, atO, atP, evp, evs, retV, ↓reduceIte, Nat.reduceEqDiff, reduceCtorEq]
  refine loop_of (fun t w' => w' = w ∧ t 0 = rs ∧ t 1 = fs ∧ ∃ i : Nat, t 5 = .int .i64 (i : Int) ∧ i ≤ hs.length) (fun t _ => hs.length - (toI (t 5)).toNat) ⟨rfl, by simp only [WS, List.getElem_cons_zero, List.getElem_cons_succ, Option.isNone_some, Option.isNone_none, List.getD_cons_zero, List.getD_cons_succ, I.at, atL, atO, atP, evp, evs, retV, ↓reduceIte, Nat.reduceEqDiff, reduceCtorEq], by simp only [WS, List.getElem_cons_zero, List.getElem_cons_succ, Option.isNone_some, Option.isNone_none, List.getD_cons_zero, List.getD_cons_succ, I.at, atL, atO, atP, evp, evs, retV, ↓reduceIte, Nat.reduceEqDiff, reduceCtorEq], 0, rfl, by omega⟩ ?_
  rintro t w' ⟨rfl, t0, t1, i, t5, hi⟩
  by_cases hlt : i < hs.length
  · have hT := hr i hlt
    have hl := hV i hlt
    have hle : (V i).length + 3 ≤ (V i).length + tl3.length := by rw [tl3_len]; omega
    have hW := hT.whole.sl
    rw [tl3_len] at hW
    have lW : (V i ++ tl3).length = (V i).length + 3 := by rw [List.length_append, tl3_len]
    have i0 : (V i).length < (V i ++ tl3).length := by omega
    have i1 : (V i).length + 1 < (V i ++ tl3).length := by omega
    have i2 : (V i).length + 2 < (V i ++ tl3).length := by omega
    have g0 : (V i ++ tl3)[(V i).length] = (⟨71⟩ : El 16) := by rw [List.getElem_append_right (Nat.le_refl _)]; simp [tl3]
    have g1 : (V i ++ tl3)[(V i).length + 1] = (⟨72⟩ : El 16) := by rw [List.getElem_append_right (by omega)]; simp [tl3]
    have g2 : (V i ++ tl3)[(V i).length + 2] = (⟨73⟩ : El 16) := by rw [List.getElem_append_right (by omega)]; simp [tl3]
    simp (maxSteps := 1000000) (disch := omega) only [WS, List.getElem_cons_zero, List.getElem_cons_succ, Option.isNone_some, Option.isNone_none, List.getD_cons_zero, List.getD_cons_succ, I.at, atL, atO, atP, evp, evs, retV, ↓reduceIte, Nat.reduceEqDiff, reduceCtorEq, AS, t0, t1, t5, h.Xlen, h.Xix hlt, h.Xld hlt, hT.ow.sl.Xlen, hT.XslcHi hle, hW.Xix i0, hW.Xld i0, g0, hW.Xix i1, hW.Xld i1, g1, hW.Xix i2, hW.Xld i2, g2, cell_e16, show decide ((((⟨71⟩ : El 16)).v.toNat : Int) = 71) = true from rfl, show decide ((((⟨72⟩ : El 16)).v.toNat : Int) = 72) = true from rfl, show decide ((((⟨73⟩ : El 16)).v.toNat : Int) = 73) = true from rfl]
    exact ⟨⟨i + 1, rfl, by omega⟩, by omega⟩
  · obtain rfl : i = hs.length := by omega
    have lF : (hs ++ [h4]).length = hs.length + 1 := by simp
    have iF : hs.length < (hs ++ [h4]).length := by omega
    have gF : (hs ++ [h4])[hs.length] = h4 := by simp
    simp (maxSteps := 1000000) (disch := omega) only [WS, List.getElem_cons_zero, List.getElem_cons_succ, Option.isNone_some, Option.isNone_none, List.getD_cons_zero, List.getD_cons_succ, I.at, atL, atO, atP, evp, evs, retV, ↓reduceIte, Nat.reduceEqDiff, reduceCtorEq, AS, t0, t1, t5, h.Xlen, hf.Xlen, lF, Nat.add_sub_cancel, hf.Xix iF, hf.Xld iF, gF, h74.Xlen, show decide ((([(⟨74⟩ : El 16)].length : Nat) : Int) = 1) = true from rfl, h74.Xix0 (by simp), h74.Xld (i := 0) (by simp), cell_e16, show decide ((((⟨74⟩ : El 16)).v.toNat : Int) = 74) = true from rfl]
theorem u16_elx (n : Int) : ∃ y : El 16, IntKind.u16.wrap n = (y.v.toNat : Int) := by
  have h1 : 0 ≤ n % 65536 := Int.emod_nonneg _ (by decide)
  have h2 : n % 65536 < 65536 := Int.emod_lt_of_pos _ (by decide)
  refine ⟨eN (n % 65536).toNat, ?_⟩
  rw [eN_v _ (by omega)]
  have e : IntKind.u16.wrap n = n % 65536 := by
    show (if (false && decide (n % 65536 ≥ 32768)) = true then n % 65536 - 65536 else n % 65536) = _
    rfl
  rw [e]; omega
end Go.Proofs.Ytpmfeaajpjjfiaa.Fw
