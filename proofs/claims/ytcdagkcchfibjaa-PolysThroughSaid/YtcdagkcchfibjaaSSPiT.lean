import Derived.Test.YtcdagkcchfibjaaProg
import Derived.Test.YtcdagkcchfibjaaFwTT
import Derived.Test.YtcdagkcchfibjaaSSPT
set_option linter.all false
set_option linter.unusedVariables false
set_option linter.unusedSimpArgs false
set_option maxRecDepth 100000
set_option maxHeartbeats 1000000
namespace Go.Proofs.Ytcdagkcchfibjaa.Fw
open Go Go.Fw Go.Proofs
attribute [local irreducible] stepI
def c_polys_Ring_w_Interpolate : C := .seq (.ops [⟨0, (some 6), none, .mov (.c (.slice none 0 0)), []⟩, ⟨1, (some 7), none, .mov (.c (.int .i64 0)), []⟩]) (.seq (.seq (.ops [⟨0, (some 12), none, .mov (.t 0), []⟩, ⟨1, (some 13), none, .mov (.t 1), []⟩, ⟨2, (some 14), none, .mov (.t 2), []⟩, ⟨3, (some 15), none, .bsl 27 2 [.slice none 0 0] [(0, (1, .t 13)), (1, (1, .t 14))], []⟩, ⟨4, (some 16), none, .call (.c (.func (.func 78) #[] #[])) [.t 12, .t 15], []⟩, ⟨5, (some 8), none, .mov (.t 16), []⟩]) (.seq (.ops [⟨0, (some 17), none, .mov (.t 8), []⟩, ⟨1, (some 18), none, .bin .neq (.t 17) (.c (.int .i64 0)), []⟩]) (.ite (.t 18) (.seq (.ops [⟨0, (some 19), none, .mov (.t 8), []⟩, ⟨1, (some 6), none, .mov (.c (.slice none 0 0)), []⟩, ⟨2, (some 7), none, .mov (.t 19), []⟩]) .ret) .skip))) (.seq (.seq (.ops [⟨0, (some 20), none, .mov (.t 1), []⟩, ⟨1, (some 21), none, .len (.t 20), []⟩, ⟨2, (some 22), none, .mov (.t 2), []⟩, ⟨3, (some 23), none, .len (.t 22), []⟩, ⟨4, (some 24), none, .bin .neq (.t 21) (.t 23), []⟩]) (.ite (.t 24) (.seq (.ops [⟨0, (some 6), none, .mov (.c (.slice none 0 0)), []⟩, ⟨1, (some 7), none, .mov (.c (.int .i64 6)), []⟩]) .ret) .skip)) (.seq (.ops [⟨0, (some 25), none, .mkm, []⟩, ⟨1, (some 9), none, .mov (.t 25), []⟩]) (.seq (.seq (.ops [⟨0, (some 26), none, .mov (.t 1), []⟩, ⟨1, (some 27), none, .len (.t 26), []⟩, ⟨2, (some 28), none, .mov (.c (.int .i64 0)), []⟩]) (.block 0 (.loop (.seq (.ops [⟨0, (some 29), none, .bin .lss (.t 28) (.t 27), []⟩]) (.seq (.ite (.t 29) .skip (.exit 0)) (.seq (.block 1 (.seq (.ops [⟨0, (some 30), none, .ixs 1 (.t 26) (.t 28), []⟩, ⟨1, (some 31), none, .ld (.t 30), []⟩, ⟨2, (some 11), none, .mov (.t 31), []⟩]) (.seq (.ops [⟨0, (some 32), none, .mov (.t 9), []⟩, ⟨1, (some 33), none, .mov (.t 11), []⟩, ⟨2, (some 34), none, .mlk .u16 .i64 (.t 32) (.t 33), []⟩, ⟨3, (some 35), none, .bin .add (.t 34) (.c (.int .i64 1)), []⟩, ⟨4, none, none, .mup .u16 (.t 32) (.t 33) (.t 35), []⟩]) (.seq (.ops [⟨0, (some 36), none, .mov (.t 9), []⟩, ⟨1, (some 37), none, .mov (.t 11), []⟩, ⟨2, (some 38), none, .mlk .u16 .i64 (.t 36) (.t 37), []⟩, ⟨3, (some 39), none, .bin .gtr (.t 38) (.c (.int .i64 1)), []⟩]) (.ite (.t 39) (.seq (.ops [⟨0, (some 6), none, .mov (.c (.slice none 0 0)), []⟩, ⟨1, (some 7), none, .mov (.c (.int .i64 41)), []⟩]) .ret) .skip))))) (.ops [⟨0, (some 40), none, .bin .add (.t 28) (.c (.int .i64 1)), []⟩, ⟨1, (some 28), none, .mov (.t 40), []⟩]))))))) (.seq (.ops [⟨0, (some 41), none, .mov (.t 0), []⟩, ⟨1, (some 42), none, .mov (.t 1), []⟩, ⟨2, (some 43), none, .mov (.t 2), []⟩, ⟨3, (some 44), none, .call (.c (.func (.func 87) #[] #[])) [.t 41, .t 42, .t 43], []⟩, ⟨4, (some 6), none, .mov (.t 44), []⟩, ⟨5, (some 7), none, .mov (.c (.int .i64 0)), []⟩]) .ret)))))
attribute [irreducible] c_polys_Ring_w_Interpolate
theorem run_polys_Ring_w_Interpolate {args : List Value} {w : World} {K : Value → World → Prop} (hn : args.length ≤ 45) (h : WP Try.prog c_polys_Ring_w_Interpolate (endQ [.t 6, .t 7] K) (initT args) w) : CallV Try.prog 47 args w K :=
  call_of follows Try.func47 (by kernel_rfl) (by kernel_rfl) hn h
def c_polys_Ring_b_Interpolate : C := .seq (.ops [⟨0, (some 6), none, .mov (.c (.slice none 0 0)), []⟩, ⟨1, (some 7), none, .mov (.c (.int .i64 0)), []⟩]) (.seq (.seq (.ops [⟨0, (some 12), none, .mov (.t 0), []⟩, ⟨1, (some 13), none, .mov (.t 1), []⟩, ⟨2, (some 14), none, .mov (.t 2), []⟩, ⟨3, (some 15), none, .bsl 57 2 [.slice none 0 0] [(0, (1, .t 13)), (1, (1, .t 14))], []⟩, ⟨4, (some 16), none, .call (.c (.func (.func 80) #[] #[])) [.t 12, .t 15], []⟩, ⟨5, (some 8), none, .mov (.t 16), []⟩]) (.seq (.ops [⟨0, (some 17), none, .mov (.t 8), []⟩, ⟨1, (some 18), none, .bin .neq (.t 17) (.c (.int .i64 0)), []⟩]) (.ite (.t 18) (.seq (.ops [⟨0, (some 19), none, .mov (.t 8), []⟩, ⟨1, (some 6), none, .mov (.c (.slice none 0 0)), []⟩, ⟨2, (some 7), none, .mov (.t 19), []⟩]) .ret) .skip))) (.seq (.seq (.ops [⟨0, (some 20), none, .mov (.t 1), []⟩, ⟨1, (some 21), none, .len (.t 20), []⟩, ⟨2, (some 22), none, .mov (.t 2), []⟩, ⟨3, (some 23), none, .len (.t 22), []⟩, ⟨4, (some 24), none, .bin .neq (.t 21) (.t 23), []⟩]) (.ite (.t 24) (.seq (.ops [⟨0, (some 6), none, .mov (.c (.slice none 0 0)), []⟩, ⟨1, (some 7), none, .mov (.c (.int .i64 6)), []⟩]) .ret) .skip)) (.seq (.ops [⟨0, (some 25), none, .mkm, []⟩, ⟨1, (some 9), none, .mov (.t 25), []⟩]) (.seq (.seq (.ops [⟨0, (some 26), none, .mov (.t 1), []⟩, ⟨1, (some 27), none, .len (.t 26), []⟩, ⟨2, (some 28), none, .mov (.c (.int .i64 0)), []⟩]) (.block 0 (.loop (.seq (.ops [⟨0, (some 29), none, .bin .lss (.t 28) (.t 27), []⟩]) (.seq (.ite (.t 29) .skip (.exit 0)) (.seq (.block 1 (.seq (.ops [⟨0, (some 30), none, .ixs 1 (.t 26) (.t 28), []⟩, ⟨1, (some 31), none, .ld (.t 30), []⟩, ⟨2, (some 11), none, .mov (.t 31), []⟩]) (.seq (.ops [⟨0, (some 32), none, .mov (.t 9), []⟩, ⟨1, (some 33), none, .mov (.t 11), []⟩, ⟨2, (some 34), none, .mlk .u8 .i64 (.t 32) (.t 33), []⟩, ⟨3, (some 35), none, .bin .add (.t 34) (.c (.int .i64 1)), []⟩, ⟨4, none, none, .mup .u8 (.t 32) (.t 33) (.t 35), []⟩]) (.seq (.ops [⟨0, (some 36), none, .mov (.t 9), []⟩, ⟨1, (some 37), none, .mov (.t 11), []⟩, ⟨2, (some 38), none, .mlk .u8 .i64 (.t 36) (.t 37), []⟩, ⟨3, (some 39), none, .bin .gtr (.t 38) (.c (.int .i64 1)), []⟩]) (.ite (.t 39) (.seq (.ops [⟨0, (some 6), none, .mov (.c (.slice none 0 0)), []⟩, ⟨1, (some 7), none, .mov (.c (.int .i64 41)), []⟩]) .ret) .skip))))) (.ops [⟨0, (some 40), none, .bin .add (.t 28) (.c (.int .i64 1)), []⟩, ⟨1, (some 28), none, .mov (.t 40), []⟩]))))))) (.seq (.ops [⟨0, (some 41), none, .mov (.t 0), []⟩, ⟨1, (some 42), none, .mov (.t 1), []⟩, ⟨2, (some 43), none, .mov (.t 2), []⟩, ⟨3, (some 44), none, .call (.c (.func (.func 88) #[] #[])) [.t 41, .t 42, .t 43], []⟩, ⟨4, (some 6), none, .mov (.t 44), []⟩, ⟨5, (some 7), none, .mov (.c (.int .i64 0)), []⟩]) .ret)))))
attribute [irreducible] c_polys_Ring_b_Interpolate
theorem run_polys_Ring_b_Interpolate {args : List Value} {w : World} {K : Value → World → Prop} (hn : args.length ≤ 45) (h : WP Try.prog c_polys_Ring_b_Interpolate (endQ [.t 6, .t 7] K) (initT args) w) : CallV Try.prog 48 args w K :=
  call_of follows Try.func48 (by kernel_rfl) (by kernel_rfl) hn h
end Go.Proofs.Ytcdagkcchfibjaa.Fw
namespace Go.Proofs.Ytcdagkcchfibjaa.Fw
open Go Go.Fw
theorem polys_Ring_w_Interpolate_spec (w : World) (r s1 s2 : Value) (l1 l2 : List (El 16)) (hr : Ring_w w r) (h1 : Sl w s1 l1) (h2 : Sl w s2 l2) (hb1 : l1.length ≤ 70368744175616) (hb2 : l2.length ≤ 70368744175616) :
    CallV Try.prog 47 [r, s1, s2] w fun v w' => RowKit.Below w.heap.size w w' ∧
      ((l1.length ≤ 1024 ∧ l2.length ≤ 1024 ∧ l2.length = l1.length ∧ (∀ a b, a < l1.length → b < l1.length → l1.getD a 0 = l1.getD b 0 → a = b) ∧ ∃ s m, v = .tuple #[s, .int .i64 0] ∧ Ow w.heap.size w' s m ∧ tr m = m ∧ co m = nw (fun j => l1.getD j 0) (fun j => l2.getD j 0) 0 l1.length ∧ m.length ≤ l1.length) ∨
       (l1.length ≤ 1024 ∧ l2.length ≤ 1024 ∧ l2.length ≠ l1.length ∧ v = .tuple #[.slice none 0 0, .int .i64 6]) ∨
       (l1.length ≤ 1024 ∧ l2.length ≤ 1024 ∧ l2.length = l1.length ∧ ¬ (∀ a b, a < l1.length → b < l1.length → l1.getD a 0 = l1.getD b 0 → a = b) ∧ v = .tuple #[.slice none 0 0, .int .i64 41]) ∨
       (¬ (l1.length ≤ 1024 ∧ l2.length ≤ 1024) ∧ v = .tuple #[.slice none 0 0, .int .i64 5])) := by
  have h10 := h1
  have h20 := h2
  have hr0 := hr
  refine run_polys_Ring_w_Interpolate (by simp) ?_
  simp only [c_polys_Ring_w_Interpolate, WS, List.getElem_cons_zero, List.getElem_cons_succ, Option.isNone_some, Option.isNone_none, List.getD_cons_zero, List.getD_cons_succ, I.at, atL, atO, atP, evp, evs, retV, ↓reduceIte, Nat.reduceEqDiff, reduceCtorEq]
  obtain ⟨e1, n1⟩ := h1.hd
  obtain ⟨e2, n2⟩ := h2.hd
  refine X_bsl (zs := [hd s1, hd s2]) (fill2 h1 h2) rfl fun ls w1 ho hB => ?_
  obtain ⟨b, mv, iv, rfl, -, -⟩ := id hr
  simp only [WS, List.getElem_cons_zero, List.getElem_cons_succ, Option.isNone_some, Option.isNone_none, List.getD_cons_zero, List.getD_cons_succ, I.at, atL, atO, atP, evp, evs, retV, ↓reduceIte, Nat.reduceEqDiff, reduceCtorEq]
  refine X_call0 ((polys_Ring_w_refuses_spec w1 _ ls _ ho.sl (by simp) (by simp [n1, n2]; omega)).mono ?_)
  rintro v w' ⟨rfl, rfl⟩
  have hiff : (∀ x ∈ [hd s1, hd s2], x.n ≤ 1024) = (l1.length ≤ 1024 ∧ l2.length ≤ 1024) := by simp [n1, n2]
  by_cases hsz : l1.length ≤ 1024 ∧ l2.length ≤ 1024
  rotate_left
  · rw [if_neg (fun e => hsz (hiff.mp e))]
    simp only [WS, List.getElem_cons_zero, List.getElem_cons_succ, Option.isNone_some, Option.isNone_none, List.getD_cons_zero, List.getD_cons_succ, I.at, atL, atO, atP, evp, evs, retV, ↓reduceIte, Nat.reduceEqDiff, reduceCtorEq, show decide ((5 : Int) = 0) = false from rfl]
    exact ⟨hB, Or.inr (Or.inr (Or.inr hsz))⟩
  rw [if_pos (hiff.mpr hsz)]
  obtain ⟨z1, z2⟩ := hsz
  have h1 := h1.up hB
  have h2 := h2.up hB
  have hr := hr.up hB
  by_cases hlen : l2.length = l1.length
  rotate_left
  · simp (maxSteps := 1000000) (disch := omega) only [WS, List.getElem_cons_zero, List.getElem_cons_succ, Option.isNone_some, Option.isNone_none, List.getD_cons_zero, List.getD_cons_succ, I.at, atL, atO, atP, evp, evs, retV, ↓reduceIte, Nat.reduceEqDiff, reduceCtorEq, AS, show decide ((0 : Int) = 0) = true from rfl, h1.Xlen, h2.Xlen]
    exact ⟨hB, Or.inr (Or.inl ⟨z1, z2, hlen⟩)⟩
  simp (maxSteps := 1000000) (disch := omega) only [WS, List.getElem_cons_zero, List.getElem_cons_succ, Option.isNone_some, Option.isNone_none, List.getD_cons_zero, List.getD_cons_succ, I.at, atL, atO, atP, evp, evs, retV, ↓reduceIte, Nat.reduceEqDiff, reduceCtorEq, AS, show decide ((0 : Int) = 0) = true from rfl, h1.Xlen, h2.Xlen, hlen, show ∀ e : Int, decide (e = e) = true from fun e => decide_eq_true rfl]
  refine X_mkm .u16 .i64 fun rr w2 hM hrr hB2 => ?_
  have B := hB.trans (hB2.mono hB.size)
  have hrr : w.heap.size ≤ rr := Nat.le_trans hB.size hrr
  have C := hB2
  simp (maxSteps := 1000000) (disch := omega) only [WS, List.getElem_cons_zero, List.getElem_cons_succ, Option.isNone_some, Option.isNone_none, List.getD_cons_zero, List.getD_cons_succ, I.at, atL, atO, atP, evp, evs, retV, ↓reduceIte, Nat.reduceEqDiff, reduceCtorEq, AS, h1.Xlen, (h1.up C).Xlen]
  refine loop_of (fun t w' => t 0 = .pointer (some ⟨b, 0, none⟩) ∧ t 1 = s1 ∧ t 2 = s2 ∧ t 9 = .map (some rr) ∧ t 26 = s1 ∧ t 27 = .int .i64 (l1.length : Int) ∧ RowKit.Below w.heap.size w w' ∧ ∃ (i : Nat) (f : Int → Value), t 28 = .int .i64 (i : Int) ∧ i ≤ l1.length ∧ Mi .u16 .i64 w' (.map (some rr)) f ∧ (∀ j, j < i → f ((l1.getD j 0).v.toNat : Int) = .int .i64 1) ∧ (∀ n : Int, (∀ j, j < i → ((l1.getD j 0).v.toNat : Int) ≠ n) → f n = .int .i64 0) ∧ ∀ a b, a < i → b < i → l1.getD a 0 = l1.getD b 0 → a = b)
    (fun t _ => l1.length - (toI (t 28)).toNat) ⟨by simp only [WS, List.getElem_cons_zero, List.getElem_cons_succ, Option.isNone_some, Option.isNone_none, List.getD_cons_zero, List.getD_cons_succ, I.at, atL, atO, atP, evp, evs, retV, ↓reduceIte, Nat.reduceEqDiff, reduceCtorEq], by simp only [WS, List.getElem_cons_zero, List.getElem_cons_succ, Option.isNone_some, Option.isNone_none, List.getD_cons_zero, List.getD_cons_succ, I.at, atL, atO, atP, evp, evs, retV, ↓reduceIte, Nat.reduceEqDiff, reduceCtorEq], by simp only [WS, List.getElem_cons_zero, List.getElem_cons_succ, Option.isNone_some, Option.isNone_none, List.getD_cons_zero, List.getD_cons_succ, I.at, atL, atO, atP, evp, evs, retV, ↓reduceIte, Nat.reduceEqDiff, reduceCtorEq], by simp only [WS, List.getElem_cons_zero, List.getElem_cons_succ, Option.isNone_some, Option.isNone_none, List.getD_cons_zero, List.getD_cons_succ, I.at, atL, atO, atP, evp, evs, retV, ↓reduceIte, Nat.reduceEqDiff, reduceCtorEq], by simp only [WS, List.getElem_cons_zero, List.getElem_cons_succ, Option.isNone_some, Option.isNone_none, List.getD_cons_zero, List.getD_cons_succ, I.at, atL, atO, atP, evp, evs, retV, ↓reduceIte, Nat.reduceEqDiff, reduceCtorEq], by simp only [WS, List.getElem_cons_zero, List.getElem_cons_succ, Option.isNone_some, Option.isNone_none, List.getD_cons_zero, List.getD_cons_succ, I.at, atL, atO, atP, evp, evs, retV, ↓reduceIte, Nat.reduceEqDiff, reduceCtorEq], B, 0, _, rfl, by omega, hM, fun j hj => by omega, fun n _ => rfl, fun a b ha => by omega⟩ ?_
  clear B C hB2 hM
  rintro t w3 ⟨t0, t1, t2, t9, t26, t27, B, i, f, t28, hi, hM, hf1, hf0, hnd⟩
  by_cases hlt : i < l1.length
  · have h3 : Sl w3 s1 l1 := (h10.up B)
    have gx : l1.getD i 0 = l1[i] := by rw [List.getD_eq_getElem?_getD, List.getElem?_eq_getElem hlt]; rfl
    by_cases hin : ∃ j, j < i ∧ l1.getD j 0 = l1.getD i 0
    · obtain ⟨j, hj, hje⟩ := hin
      have hv : f ((l1[i]).v.toNat : Int) = .int .i64 1 := by rw [← gx, ← hje]; exact hf1 j hj
      simp (maxSteps := 1000000) (disch := omega) only [WS, List.getElem_cons_zero, List.getElem_cons_succ, Option.isNone_some, Option.isNone_none, List.getD_cons_zero, List.getD_cons_succ, I.at, atL, atO, atP, evp, evs, retV, ↓reduceIte, Nat.reduceEqDiff, reduceCtorEq, AS, t0, t1, t2, t9, t26, t27, t28, h3.Xix hlt, h3.Xld hlt, cell_e16, hM.Xlk ((l1[i]).v.toNat : Int), hv]
      refine Mi.Xup hM ((l1[i]).v.toNat : Int) _ fun w4 hM4 hg => ?_
      have B := B.grown hg B.size fun b hb => by cases hb; exact hrr
      simp (maxSteps := 1000000) (disch := omega) only [WS, List.getElem_cons_zero, List.getElem_cons_succ, Option.isNone_some, Option.isNone_none, List.getD_cons_zero, List.getD_cons_succ, I.at, atL, atO, atP, evp, evs, retV, ↓reduceIte, Nat.reduceEqDiff, reduceCtorEq, AS, t0, t1, t2, t9, t26, t27, t28, hM4.Xlk ((l1[i]).v.toNat : Int), if_pos, show IntKind.i64.wrap (1 + 1) = 2 from rfl, show decide ((1 : Int) < 2) = true from rfl]
      exact ⟨B, Or.inr (Or.inr (Or.inl ⟨z1, z1, fun hall => by have := hall j i (by omega) hlt hje; omega⟩))⟩
    · have hno : ∀ j, j < i → ((l1.getD j 0).v.toNat : Int) ≠ ((l1[i]).v.toNat : Int) := fun j hj e => hin ⟨j, hj, by rw [gx]; exact El.ext (BitVec.eq_of_toNat_eq (by omega))⟩
      have hv : f ((l1[i]).v.toNat : Int) = .int .i64 0 := hf0 _ hno
      simp (maxSteps := 1000000) (disch := omega) only [WS, List.getElem_cons_zero, List.getElem_cons_succ, Option.isNone_some, Option.isNone_none, List.getD_cons_zero, List.getD_cons_succ, I.at, atL, atO, atP, evp, evs, retV, ↓reduceIte, Nat.reduceEqDiff, reduceCtorEq, AS, t0, t1, t2, t9, t26, t27, t28, h3.Xix hlt, h3.Xld hlt, cell_e16, hM.Xlk ((l1[i]).v.toNat : Int), hv]
      refine Mi.Xup hM ((l1[i]).v.toNat : Int) _ fun w4 hM4 hg => ?_
      have B := B.grown hg B.size fun b hb => by cases hb; exact hrr
      simp (maxSteps := 1000000) (disch := omega) only [WS, List.getElem_cons_zero, List.getElem_cons_succ, Option.isNone_some, Option.isNone_none, List.getD_cons_zero, List.getD_cons_succ, I.at, atL, atO, atP, evp, evs, retV, ↓reduceIte, Nat.reduceEqDiff, reduceCtorEq, AS, t0, t1, t2, t9, t26, t27, t28, hM4.Xlk ((l1[i]).v.toNat : Int), if_pos, show IntKind.i64.wrap (0 + 1) = 1 from rfl, show decide ((1 : Int) < 1) = false from rfl]
      refine ⟨⟨B, i + 1, _, rfl, by omega, hM4, fun j hj => ?_, fun n hn => ?_, fun a b ha hb e => ?_⟩, by omega⟩
      · by_cases hji : j = i
        · subst hji; rw [gx]; exact if_pos rfl
        · rw [if_neg (by have := hno j (by omega); exact this)]; exact hf1 j (by omega)
      · have hni := hn i (by omega)
        rw [gx] at hni
        rw [if_neg (fun e => hni e.symm)]
        exact hf0 n fun j hj => hn j (by omega)
      · by_cases hai : a = i
        · by_cases hbi : b = i
          · rw [hai, hbi]
          · exact absurd ⟨b, by omega, by rw [← hai]; exact e.symm⟩ hin
        · by_cases hbi : b = i
          · exact absurd ⟨a, by omega, by rw [← hbi]; exact e⟩ hin
          · exact hnd a b (by omega) (by omega) e
  · obtain rfl : i = l1.length := by omega
    simp (maxSteps := 1000000) (disch := omega) only [WS, List.getElem_cons_zero, List.getElem_cons_succ, Option.isNone_some, Option.isNone_none, List.getD_cons_zero, List.getD_cons_succ, I.at, atL, atO, atP, evp, evs, retV, ↓reduceIte, Nat.reduceEqDiff, reduceCtorEq, AS, t0, t1, t2, t9, t26, t27, t28]
    refine X_call0 ((polys_Ring_w_newton_spec w3 _ s1 s2 l1 l2 (hr0.up B) (h10.up B) (h20.up B) (by omega) hlen hnd).mono ?_)
    rintro v w4 ⟨m, om, tm, cm, lm, hB⟩
    simp (maxSteps := 1000000) (disch := omega) only [WS, List.getElem_cons_zero, List.getElem_cons_succ, Option.isNone_some, Option.isNone_none, List.getD_cons_zero, List.getD_cons_succ, I.at, atL, atO, atP, evp, evs, retV, ↓reduceIte, Nat.reduceEqDiff, reduceCtorEq, AS]
    exact ⟨B.trans (hB.mono B.size), Or.inl ⟨z1, z1, hnd, _, m, rfl, om.mono B.size, tm, cm, lm⟩⟩
end Go.Proofs.Ytcdagkcchfibjaa.Fw

namespace Go.Proofs.Ytcdagkcchfibjaa.Fw
open Go Go.Fw
theorem polys_Ring_b_Interpolate_spec (w : World) (r s1 s2 : Value) (l1 l2 : List (El 8)) (hr : Ring_b w r) (h1 : Sl w s1 l1) (h2 : Sl w s2 l2) (hb1 : l1.length ≤ 70368744175616) (hb2 : l2.length ≤ 70368744175616) :
    CallV Try.prog 48 [r, s1, s2] w fun v w' => RowKit.Below w.heap.size w w' ∧
      ((l1.length ≤ 1024 ∧ l2.length ≤ 1024 ∧ l2.length = l1.length ∧ (∀ a b, a < l1.length → b < l1.length → l1.getD a 0 = l1.getD b 0 → a = b) ∧ ∃ s m, v = .tuple #[s, .int .i64 0] ∧ Ow w.heap.size w' s m ∧ tr m = m ∧ co m = nw (fun j => l1.getD j 0) (fun j => l2.getD j 0) 0 l1.length ∧ m.length ≤ l1.length) ∨
       (l1.length ≤ 1024 ∧ l2.length ≤ 1024 ∧ l2.length ≠ l1.length ∧ v = .tuple #[.slice none 0 0, .int .i64 6]) ∨
       (l1.length ≤ 1024 ∧ l2.length ≤ 1024 ∧ l2.length = l1.length ∧ ¬ (∀ a b, a < l1.length → b < l1.length → l1.getD a 0 = l1.getD b 0 → a = b) ∧ v = .tuple #[.slice none 0 0, .int .i64 41]) ∨
       (¬ (l1.length ≤ 1024 ∧ l2.length ≤ 1024) ∧ v = .tuple #[.slice none 0 0, .int .i64 5])) := by
  have h10 := h1
  have h20 := h2
  have hr0 := hr
  refine run_polys_Ring_b_Interpolate (by simp) ?_
  simp only [c_polys_Ring_b_Interpolate, WS, List.getElem_cons_zero, List.getElem_cons_succ, Option.isNone_some, Option.isNone_none, List.getD_cons_zero, List.getD_cons_succ, I.at, atL, atO, atP, evp, evs, retV, ↓reduceIte, Nat.reduceEqDiff, reduceCtorEq]
  obtain ⟨e1, n1⟩ := h1.hd
  obtain ⟨e2, n2⟩ := h2.hd
  refine X_bsl (zs := [hd s1, hd s2]) (fill2 h1 h2) rfl fun ls w1 ho hB => ?_
  obtain ⟨b, mv, iv, rfl, -, -⟩ := id hr
  simp only [WS, List.getElem_cons_zero, List.getElem_cons_succ, Option.isNone_some, Option.isNone_none, List.getD_cons_zero, List.getD_cons_succ, I.at, atL, atO, atP, evp, evs, retV, ↓reduceIte, Nat.reduceEqDiff, reduceCtorEq]
  refine X_call0 ((polys_Ring_b_refuses_spec w1 _ ls _ ho.sl (by simp) (by simp [n1, n2]; omega)).mono ?_)
  rintro v w' ⟨rfl, rfl⟩
  have hiff : (∀ x ∈ [hd s1, hd s2], x.n ≤ 1024) = (l1.length ≤ 1024 ∧ l2.length ≤ 1024) := by simp [n1, n2]
  by_cases hsz : l1.length ≤ 1024 ∧ l2.length ≤ 1024
  rotate_left
  · rw [if_neg (fun e => hsz (hiff.mp e))]
    simp only [WS, List.getElem_cons_zero, List.getElem_cons_succ, Option.isNone_some, Option.isNone_none, List.getD_cons_zero, List.getD_cons_succ, I.at, atL, atO, atP, evp, evs, retV, ↓reduceIte, Nat.reduceEqDiff, reduceCtorEq, show decide ((5 : Int) = 0) = false from rfl]
    exact ⟨hB, Or.inr (Or.inr (Or.inr hsz))⟩
  rw [if_pos (hiff.mpr hsz)]
  obtain ⟨z1, z2⟩ := hsz
  have h1 := h1.up hB
  have h2 := h2.up hB
  have hr := hr.up hB
  by_cases hlen : l2.length = l1.length
  rotate_left
  · simp (maxSteps := 1000000) (disch := omega) only [WS, List.getElem_cons_zero, List.getElem_cons_succ, Option.isNone_some, Option.isNone_none, List.getD_cons_zero, List.getD_cons_succ, I.at, atL, atO, atP, evp, evs, retV, ↓reduceIte, Nat.reduceEqDiff, reduceCtorEq, AS, show decide ((0 : Int) = 0) = true from rfl, h1.Xlen, h2.Xlen]
    exact ⟨hB, Or.inr (Or.inl ⟨z1, z2, hlen⟩)⟩
  simp (maxSteps := 1000000) (disch := omega) only [WS, List.getElem_cons_zero, List.getElem_cons_succ, Option.isNone_some, Option.isNone_none, List.getD_cons_zero, List.getD_cons_succ, I.at, atL, atO, atP, evp, evs, retV, ↓reduceIte, Nat.reduceEqDiff, reduceCtorEq, AS, show decide ((0 : Int) = 0) = true from rfl, h1.Xlen, h2.Xlen, hlen, show ∀ e : Int, decide (e = e) = true from fun e => decide_eq_true rfl]
  refine X_mkm .u8 .i64 fun rr w2 hM hrr hB2 => ?_
  have B := hB.trans (hB2.mono hB.size)
  have hrr : w.heap.size ≤ rr := Nat.le_trans hB.size hrr
  have C := hB2
  simp (maxSteps := 1000000) (disch := omega) only [WS, List.getElem_cons_zero, List.getElem_cons_succ, Option.isNone_some, Option.isNone_none, List.getD_cons_zero, List.getD_cons_succ, I.at, atL, atO, atP, evp, evs, retV, ↓reduceIte, Nat.reduceEqDiff, reduceCtorEq, AS, h1.Xlen, (h1.up C).Xlen]
  refine loop_of (fun t w' => t 0 = .pointer (some ⟨b, 0, none⟩) ∧ t 1 = s1 ∧ t 2 = s2 ∧ t 9 = .map (some rr) ∧ t 26 = s1 ∧ t 27 = .int .i64 (l1.length : Int) ∧ RowKit.Below w.heap.size w w' ∧ ∃ (i : Nat) (f : Int → Value), t 28 = .int .i64 (i : Int) ∧ i ≤ l1.length ∧ Mi .u8 .i64 w' (.map (some rr)) f ∧ (∀ j, j < i → f ((l1.getD j 0).v.toNat : Int) = .int .i64 1) ∧ (∀ n : Int, (∀ j, j < i → ((l1.getD j 0).v.toNat : Int) ≠ n) → f n = .int .i64 0) ∧ ∀ a b, a < i → b < i → l1.getD a 0 = l1.getD b 0 → a = b)
    (fun t _ => l1.length - (toI (t 28)).toNat) ⟨by simp only [WS, List.getElem_cons_zero, List.getElem_cons_succ, Option.isNone_some, Option.isNone_none, List.getD_cons_zero, List.getD_cons_succ, I.at, atL, atO, atP, evp, evs, retV, ↓reduceIte, Nat.reduceEqDiff, reduceCtorEq], by simp only [WS, List.getElem_cons_zero, List.getElem_cons_succ, Option.isNone_some, Option.isNone_none, List.getD_cons_zero, List.getD_cons_succ, I.at, atL, atO, atP, evp, evs, retV, ↓reduceIte, Nat.reduceEqDiff, reduceCtorEq], by simp only [WS, List.getElem_cons_zero, List.getElem_cons_succ, Option.isNone_some, Option.isNone_none, List.getD_cons_zero, List.getD_cons_succ, I.at, atL, atO, atP, evp, evs, retV, ↓reduceIte, Nat.reduceEqDiff, reduceCtorEq], by simp only [WS, List.getElem_cons_zero, List.getElem_cons_succ, Option.isNone_some, Option.isNone_none, List.getD_cons_zero, List.getD_cons_succ, I.at, atL, atO, atP, evp, evs, retV, ↓reduceIte, Nat.reduceEqDiff, reduceCtorEq], by simp only [WS, List.getElem_cons_zero, List.getElem_cons_succ, Option.isNone_some, Option.isNone_none, List.getD_cons_zero, List.getD_cons_succ, I.at, atL, atO, atP, evp, evs, retV, ↓reduceIte, Nat.reduceEqDiff, reduceCtorEq], by simp only [WS, List.getElem_cons_zero, List.getElem_cons_succ, Option.isNone_some, Option.isNone_none, List.getD_cons_zero, List.getD_cons_succ, I.at, atL, atO, atP, evp, evs, retV, ↓reduceIte, Nat.reduceEqDiff, reduceCtorEq], B, 0, _, rfl, by omega, hM, fun j hj => by omega, fun n _ => rfl, fun a b ha => by omega⟩ ?_
  clear B C hB2 hM
  rintro t w3 ⟨t0, t1, t2, t9, t26, t27, B, i, f, t28, hi, hM, hf1, hf0, hnd⟩
  by_cases hlt : i < l1.length
  · have h3 : Sl w3 s1 l1 := (h10.up B)
    have gx : l1.getD i 0 = l1[i] := by rw [List.getD_eq_getElem?_getD, List.getElem?_eq_getElem hlt]; rfl
    by_cases hin : ∃ j, j < i ∧ l1.getD j 0 = l1.getD i 0
    · obtain ⟨j, hj, hje⟩ := hin
      have hv : f ((l1[i]).v.toNat : Int) = .int .i64 1 := by rw [← gx, ← hje]; exact hf1 j hj
      simp (maxSteps := 1000000) (disch := omega) only [WS, List.getElem_cons_zero, List.getElem_cons_succ, Option.isNone_some, Option.isNone_none, List.getD_cons_zero, List.getD_cons_succ, I.at, atL, atO, atP, evp, evs, retV, ↓reduceIte, Nat.reduceEqDiff, reduceCtorEq, AS, t0, t1, t2, t9, t26, t27, t28, h3.Xix hlt, h3.Xld hlt, cell_e8, hM.Xlk ((l1[i]).v.toNat : Int), hv]
      refine Mi.Xup hM ((l1[i]).v.toNat : Int) _ fun w4 hM4 hg => ?_
      have B := B.grown hg B.size fun b hb => by cases hb; exact hrr
      simp (maxSteps := 1000000) (disch := omega) only [WS, List.getElem_cons_zero, List.getElem_cons_succ, Option.isNone_some, Option.isNone_none, List.getD_cons_zero, List.getD_cons_succ, I.at, atL, atO, atP, evp, evs, retV, ↓reduceIte, Nat.reduceEqDiff, reduceCtorEq, AS, t0, t1, t2, t9, t26, t27, t28, hM4.Xlk ((l1[i]).v.toNat : Int), if_pos, show IntKind.i64.wrap (1 + 1) = 2 from rfl, show decide ((1 : Int) < 2) = true from rfl]
      exact ⟨B, Or.inr (Or.inr (Or.inl ⟨z1, z1, fun hall => by have := hall j i (by omega) hlt hje; omega⟩))⟩
    · have hno : ∀ j, j < i → ((l1.getD j 0).v.toNat : Int) ≠ ((l1[i]).v.toNat : Int) := fun j hj e => hin ⟨j, hj, by rw [gx]; exact El.ext (BitVec.eq_of_toNat_eq (by omega))⟩
      have hv : f ((l1[i]).v.toNat : Int) = .int .i64 0 := hf0 _ hno
      simp (maxSteps := 1000000) (disch := omega) only [WS, List.getElem_cons_zero, List.getElem_cons_succ, Option.isNone_some, Option.isNone_none, List.getD_cons_zero, List.getD_cons_succ, I.at, atL, atO, atP, evp, evs, retV, ↓reduceIte, Nat.reduceEqDiff, reduceCtorEq, AS, t0, t1, t2, t9, t26, t27, t28, h3.Xix hlt, h3.Xld hlt, cell_e8, hM.Xlk ((l1[i]).v.toNat : Int), hv]
      refine Mi.Xup hM ((l1[i]).v.toNat : Int) _ fun w4 hM4 hg => ?_
      have B := B.grown hg B.size fun b hb => by cases hb; exact hrr
      simp (maxSteps := 1000000) (disch := omega) only [WS, List.getElem_cons_zero, List.getElem_cons_succ, Option.isNone_some, Option.isNone_none, List.getD_cons_zero, List.getD_cons_succ, I.at, atL, atO, atP, evp, evs, retV, ↓reduceIte, Nat.reduceEqDiff, reduceCtorEq, AS, t0, t1, t2, t9, t26, t27, t28, hM4.Xlk ((l1[i]).v.toNat : Int), if_pos, show IntKind.i64.wrap (0 + 1) = 1 from rfl, show decide ((1 : Int) < 1) = false from rfl]
      refine ⟨⟨B, i + 1, _, rfl, by omega, hM4, fun j hj => ?_, fun n hn => ?_, fun a b ha hb e => ?_⟩, by omega⟩
      · by_cases hji : j = i
        · subst hji; rw [gx]; exact if_pos rfl
        · rw [if_neg (by have := hno j (by omega); exact this)]; exact hf1 j (by omega)
      · have hni := hn i (by omega)
        rw [gx] at hni
        rw [if_neg (fun e => hni e.symm)]
        exact hf0 n fun j hj => hn j (by omega)
      · by_cases hai : a = i
        · by_cases hbi : b = i
          · rw [hai, hbi]
          · exact absurd ⟨b, by omega, by rw [← hai]; exact e.symm⟩ hin
        · by_cases hbi : b = i
          · exact absurd ⟨a, by omega, by rw [← hbi]; exact e⟩ hin
          · exact hnd a b (by omega) (by omega) e
  · obtain rfl : i = l1.length := by omega
    simp (maxSteps := 1000000) (disch := omega) only [WS, List.getElem_cons_zero, List.getElem_cons_succ, Option.isNone_some, Option.isNone_none, List.getD_cons_zero, List.getD_cons_succ, I.at, atL, atO, atP, evp, evs, retV, ↓reduceIte, Nat.reduceEqDiff, reduceCtorEq, AS, t0, t1, t2, t9, t26, t27, t28]
    refine X_call0 ((polys_Ring_b_newton_spec w3 _ s1 s2 l1 l2 (hr0.up B) (h10.up B) (h20.up B) (by omega) hlen hnd).mono ?_)
    rintro v w4 ⟨m, om, tm, cm, lm, hB⟩
    simp (maxSteps := 1000000) (disch := omega) only [WS, List.getElem_cons_zero, List.getElem_cons_succ, Option.isNone_some, Option.isNone_none, List.getD_cons_zero, List.getD_cons_succ, I.at, atL, atO, atP, evp, evs, retV, ↓reduceIte, Nat.reduceEqDiff, reduceCtorEq, AS]
    exact ⟨B.trans (hB.mono B.size), Or.inl ⟨z1, z1, hnd, _, m, rfl, om.mono B.size, tm, cm, lm⟩⟩
end Go.Proofs.Ytcdagkcchfibjaa.Fw
