import Derived.Test.YtbaljbadlfopgaaProg
import Derived.Test.YtbaljbadlfopgaaFwTW
import Derived.Test.YtbaljbadlfopgaaSMgdW
import Derived.Test.YtbaljbadlfopgaaFwSgW
import Derived.Test.YtbaljbadlfopgaaSMh2W
set_option linter.all false
set_option linter.unusedVariables false
set_option linter.unusedSimpArgs false
set_option maxRecDepth 100000
set_option maxHeartbeats 1000000
namespace Go.Proofs.Ytbaljbadlfopgaa.Fw
open Go Go.Fw Go.Proofs
attribute [local irreducible] stepI
end Go.Proofs.Ytbaljbadlfopgaa.Fw
namespace Go.Proofs.Ytbaljbadlfopgaa.Fw
open Go Go.Fw
theorem nth_set {l : List (El 8)} {i : Nat} (h : i < l.length) (x : El 8) (j : Nat) : nth (l.set i x) j = if j = i then x else nth l j := by
  unfold nth
  rw [List.getD_eq_getElem?_getD, List.getD_eq_getElem?_getD, List.getElem?_set]
  by_cases e : i = j
  · subst e; rw [if_pos rfl, if_pos h, if_pos rfl]; rfl
  · rw [if_neg e, if_neg (fun e' => e e'.symm)]
theorem nth_rep (n : Nat) (j : Nat) : nth (List.replicate n (0 : El 8)) j = 0 := by
  unfold nth
  rw [List.getD_eq_getElem?_getD, List.getElem?_replicate]
  split <;> rfl
theorem ne_nil_of {α : Type} {l : List α} {i : Nat} (h : i < l.length) : l ≠ [] := fun e => by rw [e] at h; exact absurd h (Nat.not_lt_zero _)
end Go.Proofs.Ytbaljbadlfopgaa.Fw

set_option linter.unusedVariables false
set_option linter.unusedSimpArgs false
set_option maxRecDepth 100000
set_option maxHeartbeats 1000000
namespace Go.Proofs.Ytbaljbadlfopgaa.Fw
open Go Go.Fw Go.Proofs
attribute [local irreducible] stepI
def c_mend_weights : C := .seq (.ops [⟨0,some 6,none,.mov (.c (.slice none 0 0)),[]⟩]) (.seq (.ops [⟨0,some 10,none,.mov (.t 2),[]⟩,⟨1,some 11,none,.mks 5 1 [.int .u8 0] (.t 10) (.t 10),[]⟩,⟨2,some 7,none,.mov (.t 11),[]⟩]) (.seq (.seq (.ops [⟨0,some 12,none,.mov (.t 7),[]⟩,⟨1,some 13,none,.len (.t 12),[]⟩,⟨2,some 14,none,.mov (.c (.int .i64 0)),[]⟩]) (.block 0 (.loop (.seq (.ops [⟨0,some 15,none,.bin .lss (.t 14) (.t 13),[]⟩]) (.seq (.ite (.t 15) .skip (.exit 0)) (.seq (.block 1 (.seq (.ops [⟨0,some 16,none,.mov (.t 14),[]⟩,⟨1,some 8,none,.mov (.t 16),[]⟩]) (.seq (.ops [⟨0,some 17,none,.mov (.t 7),[]⟩,⟨1,some 18,none,.mov (.t 8),[]⟩,⟨2,some 19,none,.ixs 1 (.t 17) (.t 18),[]⟩,⟨3,none,none,.st (.t 19) (.c (.int .u8 1)),[]⟩]) (.seq (.seq (.ops [⟨0,some 20,none,.mov (.t 0),[]⟩,⟨1,some 21,none,.bin .neq (.t 20) (.c (.int .i64 1)),[]⟩]) (.ite (.t 21) (.exit 1) .skip)) (.seq (.ops [⟨0,some 22,none,.mov (.t 1),[]⟩,⟨1,some 23,none,.mov (.c (.int .i64 0)),[]⟩]) (.block 2 (.loop (.seq (.ops [⟨0,some 24,none,.bin .lss (.t 23) (.t 22),[]⟩]) (.seq (.ite (.t 24) .skip (.exit 2)) (.seq (.block 3 (.seq (.ops [⟨0,some 25,none,.mov (.t 23),[]⟩,⟨1,some 9,none,.mov (.t 25),[]⟩]) (.seq (.ops [⟨0,some 26,none,.mov (.t 9),[]⟩,⟨1,some 27,none,.mov (.t 8),[]⟩,⟨2,some 28,none,.bin .neq (.t 26) (.t 27),[]⟩]) (.ite (.t 28) (.ops [⟨0,some 29,none,.mov (.t 7),[]⟩,⟨1,some 30,none,.mov (.t 8),[]⟩,⟨2,some 31,none,.mov (.t 7),[]⟩,⟨3,some 32,none,.mov (.t 8),[]⟩,⟨4,some 33,none,.ixs 1 (.t 31) (.t 32),[]⟩,⟨5,some 34,none,.ld (.t 33),[]⟩,⟨6,some 35,none,.mov (.t 8),[]⟩,⟨7,some 36,none,.cnv .u8 (.t 35),[]⟩,⟨8,some 37,none,.mov (.t 9),[]⟩,⟨9,some 38,none,.cnv .u8 (.t 37),[]⟩,⟨10,some 39,none,.bin .xor (.t 36) (.t 38),[]⟩,⟨11,some 40,none,.call (.c (.func (.func 53) #[] #[])) [.t 34,.t 39],[]⟩,⟨12,some 41,none,.ixs 1 (.t 29) (.t 30),[]⟩,⟨13,none,none,.st (.t 41) (.t 40),[]⟩]) .skip)))) (.ops [⟨0,some 42,none,.bin .add (.t 23) (.c (.int .i64 1)),[]⟩,⟨1,some 23,none,.mov (.t 42),[]⟩]))))))))))) (.ops [⟨0,some 43,none,.bin .add (.t 14) (.c (.int .i64 1)),[]⟩,⟨1,some 14,none,.mov (.t 43),[]⟩]))))))) (.seq (.ops [⟨0,some 44,none,.mov (.t 7),[]⟩,⟨1,some 6,none,.mov (.t 44),[]⟩]) .ret)))
attribute [irreducible] c_mend_weights
theorem run_mend_weights {args : List Value} {w : World} {K : Value → World → Prop} (hn : args.length ≤ 45) (h : WP Try.prog c_mend_weights (endQ [.t 6] K) (initT args) w) : CallV Try.prog 93 args w K :=
  call_of follows Try.func93 (by kernel_rfl) (by kernel_rfl) hn h
def c_mend_work_1 : C := .seq (.ops [⟨0,some 5,none,.mov (.c (.int .u8 0)),[]⟩]) (.seq (.dops [⟨0,some 9,none,.ld (.t 1),[]⟩,⟨1,some 10,none,.nil (.t 9),[]⟩,⟨2,some 11,none,.fad 0 (.t 10),[]⟩,⟨3,some 12,none,.ld (.t 11),[]⟩,⟨4,some 13,none,.ld (.t 2),[]⟩,⟨5,some 14,none,.mov (.t 0),[]⟩,⟨6,some 15,none,.cnv .u8 (.t 14),[]⟩,⟨7,some 16,none,.call (.c (.func (.func 59) #[] #[])) [.t 12,.t 13,.t 15],[]⟩,⟨8,some 17,none,.ld (.t 3),[7]⟩,⟨9,some 18,none,.mov (.t 0),[]⟩,⟨10,some 19,none,.ixs 1 (.t 17) (.t 18),[]⟩,⟨11,some 20,none,.ld (.t 19),[7]⟩,⟨12,some 21,none,.call (.c (.func (.func 61) #[] #[])) [.t 16,.t 20],[]⟩,⟨13,some 8,none,.mov (.t 21),[]⟩,⟨14,some 22,none,.ext (.t 8) 0,[]⟩,⟨15,some 23,none,.ext (.t 8) 1,[]⟩,⟨16,some 6,none,.mov (.t 22),[]⟩,⟨17,some 7,none,.mov (.t 23),[]⟩]) (.seq (.ops [⟨0,some 24,none,.mov (.t 6),[]⟩,⟨1,some 5,none,.mov (.t 24),[]⟩]) .ret))
attribute [irreducible] c_mend_work_1
theorem run_mend_work_1 {args : List Value} {w : World} {K : Value → World → Prop} (hn : args.length ≤ 25) (h : WP Try.prog c_mend_work_1 (endQ [.t 5] K) (initT args) w) : CallV Try.prog 94 args w K :=
  call_of follows Try.func94 (by kernel_rfl) (by kernel_rfl) hn h
end Go.Proofs.Ytbaljbadlfopgaa.Fw
namespace Go.Proofs.Ytbaljbadlfopgaa.Fw
open Go Go.Fw
theorem en8_inj {a b : Nat} (ha : a < 256) (hb : b < 256) (h : en8 a = en8 b) : a = b := by
  have := congrArg (fun x : El 8 => x.v.toNat) h
  simp only [en8_v ha, en8_v hb] at this
  exact this
/-- The product of s + l over the l below. -/
def wpr (s : Nat) : Nat → El 8
  | 0 => 1
  | l + 1 => if l = s then wpr s l else wpr s l * (en8 s + en8 l)
/-- The weight of shard s. -/
def wt (f : Int) (k s : Nat) : El 8 := if f = 1 then wpr s k else 1
theorem wpr_ne {s : Nat} (hs : s < 256) : ∀ l, l ≤ 256 → wpr s l ≠ 0
  | 0, _ => El.one_ne
  | l + 1, h => by
    unfold wpr
    split
    · exact wpr_ne hs l (by omega)
    · rename_i hne
      refine fun e => (El.mul_eq_zero.1 e).elim (wpr_ne hs l (by omega)) fun e => hne ?_
      exact (en8_inj hs (by omega) (El.eq_of_add0 e)).symm
theorem wt_ne {f : Int} {k s : Nat} (hs : s < 256) (hk : k ≤ 256) : wt f k s ≠ 0 := by
  unfold wt
  split
  · exact wpr_ne hs k hk
  · exact El.one_ne
theorem mend_weights_spec (w : World) (f : Int) (k n : Nat) (hk : k ≤ 256) (hn : n ≤ 256) : CallV Try.prog 93 [.int .i64 f, .int .i64 (k : Int), .int .i64 (n : Int)] w fun v w' => RowKit.Below w.heap.size w w' ∧ Ow w.heap.size w' v ((List.range n).map (wt f k)) := by
  refine run_mend_weights (by simp) ?_
  simp only [c_mend_weights, WS, ↓reduceIte, Nat.reduceEqDiff, reduceCtorEq]
  refine X_mks (x := (0 : El 8)) (n := n) (by simp only [maxBytes]; omega) (by omega) fun s1 w1 o1 hB => ?_
  have hl0 : ((List.replicate n (0 : El 8)).length : Int) = (n : Int) := by rw [List.length_replicate]
  simp (maxSteps := 1000000) (disch := omega) only [WS, ↓reduceIte, Nat.reduceEqDiff, reduceCtorEq, AS, o1.sl.Xlen, hl0]
  refine loop_of (fun t w' => t 0 = .int .i64 f ∧ t 1 = .int .i64 (k : Int) ∧ t 7 = s1 ∧ t 13 = .int .i64 (n : Int) ∧ RowKit.Below w.heap.size w w' ∧ ∃ (i : Nat) (L : List (El 8)), t 14 = .int .i64 (i : Int) ∧ i ≤ n ∧ L.length = n ∧ (∀ j, j < i → nth L j = wt f k j) ∧ Ow w.heap.size w' s1 L) (fun t _ => n - (toI (t 14)).toNat)
    ⟨by simp only [WS, ↓reduceIte, Nat.reduceEqDiff, reduceCtorEq], by simp only [WS, ↓reduceIte, Nat.reduceEqDiff, reduceCtorEq], by simp only [WS, ↓reduceIte, Nat.reduceEqDiff, reduceCtorEq], by simp only [WS, ↓reduceIte, Nat.reduceEqDiff, reduceCtorEq], hB, 0, _, by simp only [WS, ↓reduceIte, Nat.reduceEqDiff, reduceCtorEq]; rfl, by omega, List.length_replicate .., fun j h => by omega, o1⟩ ?_
  clear o1 hB
  rintro t w2 ⟨t0, t1, t7, t13, B, i, L, t14, hi, lL, hL, oL⟩
  by_cases hin : i < n
  rotate_left
  · simp (maxSteps := 1000000) (disch := omega) only [WS, ↓reduceIte, Nat.reduceEqDiff, reduceCtorEq, AS, t7, t14, t13]
    obtain rfl : i = n := by omega
    have : L = (List.range i).map (wt f k) := List.ext_getElem (by rw [List.length_map, List.length_range, lL]) fun j a1 a2 => by
      rw [List.getElem_map, List.getElem_range, ← hL j (by omega), nth_get a1]
    rw [← this]
    exact ⟨B, oL⟩
  have iL : i < L.length := by omega
  simp (maxSteps := 1000000) (disch := omega) only [WS, ↓reduceIte, Nat.reduceEqDiff, reduceCtorEq, AS, t0, t1, t7, t13, t14, oL.sl.Xix iL]
  refine Ow.Xst oL iL (1 : El 8) fun w3 oL hg => ?_
  have B := Below.app B B.size hg fun b hb => (oL.blk b hb).1
  have hLi : ∀ x, ∀ j, j < i + 1 → nth (L.set i x) j = if j = i then x else wt f k j := fun x j hj => by
    rw [nth_set iL]
    split
    · rfl
    · exact hL j (by omega)
  by_cases hf : f = 1
  rotate_left
  · simp (maxSteps := 1000000) (disch := omega) only [WS, ↓reduceIte, Nat.reduceEqDiff, reduceCtorEq, AS, t0, t1, t7, t13, t14]
    refine ⟨⟨B, i + 1, _, rfl, by omega, by rw [List.length_set]; exact lL, fun j hj => ?_, oL⟩, by omega⟩
    rw [hLi _ j hj]
    split
    · unfold wt; rw [if_neg hf]
    · rfl
  subst hf
  simp (maxSteps := 1000000) (disch := omega) only [WS, ↓reduceIte, Nat.reduceEqDiff, reduceCtorEq, AS, t0, t1, t7, t13, t14, show decide ((1 : Int) ≠ 1) = false from rfl]
  refine loop_of (fun t w' => t 0 = .int .i64 1 ∧ t 1 = .int .i64 (k : Int) ∧ t 7 = s1 ∧ t 13 = .int .i64 (n : Int) ∧ t 14 = .int .i64 (i : Int) ∧ t 8 = .int .i64 (i : Int) ∧ t 22 = .int .i64 (k : Int) ∧ RowKit.Below w.heap.size w w' ∧ ∃ (l : Nat), t 23 = .int .i64 (l : Int) ∧ l ≤ k ∧ Ow w.heap.size w' s1 (L.set i (wpr i l))) (fun t _ => k - (toI (t 23)).toNat)
    ⟨by simp only [WS, ↓reduceIte, Nat.reduceEqDiff, reduceCtorEq]; exact t0, by simp only [WS, ↓reduceIte, Nat.reduceEqDiff, reduceCtorEq]; exact t1, by simp only [WS, ↓reduceIte, Nat.reduceEqDiff, reduceCtorEq]; exact t7, by simp only [WS, ↓reduceIte, Nat.reduceEqDiff, reduceCtorEq]; exact t13, by simp only [WS, ↓reduceIte, Nat.reduceEqDiff, reduceCtorEq]; exact t14, by simp only [WS, ↓reduceIte, Nat.reduceEqDiff, reduceCtorEq], by simp only [WS, ↓reduceIte, Nat.reduceEqDiff, reduceCtorEq], B, 0, by simp only [WS, ↓reduceIte, Nat.reduceEqDiff, reduceCtorEq]; rfl, by omega, oL⟩ ?_
  clear t0 t1 t7 t13 t14 oL B hg
  rintro t w4 ⟨t0, t1, t7, t13, t14, t8, t22, B, l, t23, hl, oL⟩
  by_cases hlk : l < k
  rotate_left
  · obtain rfl : l = k := by omega
    simp (maxSteps := 1000000) (disch := omega) only [WS, ↓reduceIte, Nat.reduceEqDiff, reduceCtorEq, AS, t0, t1, t7, t13, t14, t8, t22, t23]
    refine ⟨⟨B, i + 1, _, rfl, by omega, by rw [List.length_set]; exact lL, fun j hj => ?_, oL⟩, by omega⟩
    rw [hLi _ j hj]
    split
    · rename_i e; unfold wt; rw [if_pos rfl, e]
    · rfl
  by_cases hli : l = i
  · have : wpr i (l + 1) = wpr i l := by show (if l = i then _ else _) = _; rw [if_pos hli]
    subst hli
    simp (maxSteps := 1000000) (disch := omega) only [WS, ↓reduceIte, Nat.reduceEqDiff, reduceCtorEq, AS, t0, t1, t7, t13, t14, t8, t22, t23, ne_eq, not_true_eq_false, decide_false]
    exact ⟨⟨B, l + 1, rfl, by omega, by rw [this]; exact oL⟩, by omega⟩
  have hwp : wpr i (l + 1) = wpr i l * (en8 i + en8 l) := by show (if l = i then _ else _) = _; rw [if_neg hli]
  have hne : (l : Int) ≠ (i : Int) := by omega
  have iL' : i < (L.set i (wpr i l)).length := by rw [List.length_set]; exact iL
  have eL : (L.set i (wpr i l))[i] = wpr i l := List.getElem_set_self ..
  have u1 : IntKind.u8.wrap (i : Int) = ((en8 i).v.toNat : Int) := by rw [wrap_u8 _ (by omega), en8_v (by omega)]
  have u2 : IntKind.u8.wrap (l : Int) = ((en8 l).v.toNat : Int) := by rw [wrap_u8 _ (by omega), en8_v (by omega)]
  simp (maxSteps := 1000000) (disch := omega) only [WS, ↓reduceIte, Nat.reduceEqDiff, reduceCtorEq, AS, t0, t1, t7, t13, t14, t8, t22, t23, hne, oL.sl.Xix iL', oL.sl.Xld iL', cell_e8, eL, u1, u2, xor8]
  refine X_call0 ((gf8_Mul_spec w4 (wpr i l) (en8 i + en8 l)).mono ?_)
  rintro _ w5 ⟨rfl, rfl⟩
  simp (maxSteps := 1000000) (disch := omega) only [WS, ↓reduceIte, Nat.reduceEqDiff, reduceCtorEq, AS, t0, t1, t7, t13, t14, t8, t22, t23, oL.sl.Xix iL']
  refine Ow.Xst oL iL' (wpr i l * (en8 i + en8 l)) fun w6 oL2 hg => ?_
  have B := Below.app B B.size hg fun b hb => (oL.blk b hb).1
  simp (maxSteps := 1000000) (disch := omega) only [WS, ↓reduceIte, Nat.reduceEqDiff, reduceCtorEq, AS, t0, t1, t7, t13, t14, t8, t22, t23]
  exact ⟨⟨B, l + 1, rfl, by omega, by rw [List.set_set] at oL2; rw [hwp]; exact oL2⟩, by omega⟩
/-- The value at shard s: the closure of work. -/
theorem mend_work_1_spec (w : World) (b18 b24 b17 : Nat) (pd sg sw : Value) (k s : Nat) (xs g W : List (El 8)) (r18 : Row w b18 [pd]) (hd : Deco w pd k xs) (r24 : Row w b24 [sg]) (hg : Sl w sg g) (r17 : Row w b17 [sw]) (hw : Sl w sw W) (hs : s < W.length) (hs2 : s < 256) (hne : nth W s ≠ 0) (hgl : g.length ≤ 1024) :
    CallV Try.prog 94 [.int .i64 (s : Int), .pointer (some ⟨b18, 0, none⟩), .pointer (some ⟨b24, 0, none⟩), .pointer (some ⟨b17, 0, none⟩)] w fun v w' => v = .int .u8 ((evl g (en8 s) * (nth W s).inv).v.toNat : Int) ∧ RowKit.Below w.heap.size w w' := by
  obtain ⟨bo, r, sx, sa, A, rfl, hro, hr, -⟩ := hd
  refine run_mend_work_1 (by simp) ?_
  simp only [c_mend_work_1, WS, ↓reduceIte, Nat.reduceEqDiff, reduceCtorEq]
  refine WP_dops ?_
  have B := bel_drew w
  have u1 : IntKind.u8.wrap (s : Int) = ((en8 s).v.toNat : Int) := by rw [wrap_u8 _ (by omega), en8_v (by omega)]
  have r18 := r18.up B
  have r24 := r24.up B
  have hg := hg.up B
  have r17 := r17.up B
  have hw := hw.up B
  have hro := hro.up B
  have hr := hr.up B
  simp (maxSteps := 1000000) (disch := omega) only [ES, List.mem_cons, List.not_mem_nil, implies_true, forall_const, WS, ↓reduceIte, Nat.reduceEqDiff, reduceCtorEq, AS, r18.Eld (show 0 < _ by simp), hro.Eld (show 0 < _ by simp), r24.Eld (show 0 < _ by simp), u1]
  rw [nth_get hs] at hne ⊢
  have see : Fw.sees Try.prog (.ld (.c (elP sw s))) w.drew (.int .u8 (W[s].v.toNat : Int)) = True := hw.sees hs Try.prog
  have see2 : Fw.sees Try.prog (.ld (.c (.pointer (some ⟨b17, 0, none⟩)))) w.drew sw = True := r17.sees (o := 0) (by simp) Try.prog
  refine E_call0 ((polys_Ring_b_Eval_spec w.drew r sg g (en8 s) hr hg (by omega)).mono ?_)
  rintro _ w1 ⟨rfl, hB⟩
  have r17 := r17.up hB
  have hw := hw.up hB
  have B := B.trans (hB.mono B.size)
  clear hB
  simp (maxSteps := 1000000) (disch := omega) only [ES, List.mem_cons, List.not_mem_nil, implies_true, forall_const, WS, ↓reduceIte, Nat.reduceEqDiff, reduceCtorEq, AS, r17.Eld (show 0 < _ by simp), hw.Eix hs, hw.Eld hs, cell_e8, see, see2]
  refine E_call0 ((gf8_Div_spec w1 (evl g (en8 s)) W[s] hne).mono ?_)
  rintro _ w2 ⟨rfl, rfl⟩
  simp (maxSteps := 1000000) (disch := omega) only [ES, List.mem_cons, List.not_mem_nil, implies_true, forall_const, WS, ↓reduceIte, Nat.reduceEqDiff, reduceCtorEq, AS]
  exact B
end Go.Proofs.Ytbaljbadlfopgaa.Fw
