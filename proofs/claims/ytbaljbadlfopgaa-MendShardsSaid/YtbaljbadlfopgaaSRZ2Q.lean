import Derived.Test.YtbaljbadlfopgaaProg
import Derived.Test.YtbaljbadlfopgaaFwTQ
import Derived.Test.YtbaljbadlfopgaaSRY1Q
set_option linter.all false
set_option linter.unusedVariables false
set_option linter.unusedSimpArgs false
set_option maxRecDepth 100000
set_option maxHeartbeats 1000000
namespace Go.Proofs.Ytbaljbadlfopgaa.Fw
open Go Go.Fw Go.Proofs
attribute [local irreducible] stepI
def c_culletref19_factor : C := .seq (.ops [⟨0,some 6,none,.mov (.c (.int .u8 0)),[]⟩]) (.seq (.ops [⟨0,some 7,none,.mov (.c (.int .u8 1)),[]⟩]) (.seq (.seq (.ops [⟨0,some 8,none,.mov (.c (.int .i64 0)),[]⟩]) (.block 0 (.loop (.seq (.seq (.ops [⟨0,some 9,none,.mov (.t 8),[]⟩,⟨1,some 10,none,.mov (.t 1),[]⟩,⟨2,some 11,none,.bin .lss (.t 9) (.t 10),[]⟩,⟨3,some 12,none,.mov (.t 11),[]⟩,⟨4,some 13,(some (12,true)),.mov (.t 0),[]⟩,⟨5,some 14,(some (12,true)),.bin .eql (.t 13) (.c (.int .i64 1)),[]⟩,⟨6,some 15,none,.pick (.t 12) (.t 14) (.c (.bool false)),[]⟩]) (.ite (.t 15) .skip (.exit 0))) (.seq (.block 1 (.seq (.ops [⟨0,some 18,none,.mov (.t 8),[]⟩,⟨1,some 19,none,.mov (.t 2),[]⟩,⟨2,some 20,none,.bin .neq (.t 18) (.t 19),[]⟩]) (.ite (.t 20) (.ops [⟨0,some 21,none,.mov (.t 7),[]⟩,⟨1,some 22,none,.mov (.t 2),[]⟩,⟨2,some 23,none,.mov (.t 8),[]⟩,⟨3,some 24,none,.bin .xor (.t 22) (.t 23),[]⟩,⟨4,some 25,none,.cnv .u8 (.t 24),[]⟩,⟨5,some 26,none,.call (.c (.func (.func 100) #[] #[])) [.t 21,.t 25],[]⟩,⟨6,some 7,none,.mov (.t 26),[]⟩]) .skip))) (.ops [⟨0,some 16,none,.mov (.t 8),[]⟩,⟨1,some 17,none,.bin .add (.t 16) (.c (.int .i64 1)),[]⟩,⟨2,some 8,none,.mov (.t 17),[]⟩])))))) (.seq (.ops [⟨0,some 27,none,.mov (.t 7),[]⟩,⟨1,some 6,none,.mov (.t 27),[]⟩]) .ret)))
attribute [irreducible] c_culletref19_factor
theorem run_culletref19_factor {args : List Value} {w : World} {K : Value → World → Prop} (hn : args.length ≤ 28) (h : WP Try.prog c_culletref19_factor (endQ [.t 6] K) (initT args) w) : CallV Try.prog 101 args w K :=
  call_of follows Try.func101 (by kernel_rfl) (by kernel_rfl) hn h
def c_culletref02_Div : C := .seq (.ops [⟨0,some 4,none,.mov (.c (.int .u8 0)),[]⟩,⟨1,some 5,none,.mov (.c (.int .i64 0)),[]⟩]) (.seq (.ops [⟨0,some 9,none,.mov (.t 1),[]⟩,⟨1,some 10,none,.call (.c (.func (.func 136) #[] #[])) [.t 9],[]⟩,⟨2,some 8,none,.mov (.t 10),[]⟩,⟨3,some 11,none,.ext (.t 8) 0,[]⟩,⟨4,some 12,none,.ext (.t 8) 1,[]⟩,⟨5,some 6,none,.mov (.t 11),[]⟩,⟨6,some 7,none,.mov (.t 12),[]⟩]) (.seq (.seq (.ops [⟨0,some 13,none,.mov (.t 7),[]⟩,⟨1,some 14,none,.bin .neq (.t 13) (.c (.int .i64 0)),[]⟩]) (.ite (.t 14) (.seq (.ops [⟨0,some 15,none,.mov (.t 7),[]⟩,⟨1,some 4,none,.mov (.c (.int .u8 0)),[]⟩,⟨2,some 5,none,.mov (.t 15),[]⟩]) .ret) .skip)) (.seq (.ops [⟨0,some 16,none,.mov (.t 0),[]⟩,⟨1,some 17,none,.mov (.t 6),[]⟩,⟨2,some 18,none,.call (.c (.func (.func 100) #[] #[])) [.t 16,.t 17],[]⟩,⟨3,some 4,none,.mov (.t 18),[]⟩,⟨4,some 5,none,.mov (.c (.int .i64 0)),[]⟩]) .ret)))
attribute [irreducible] c_culletref02_Div
theorem run_culletref02_Div {args : List Value} {w : World} {K : Value → World → Prop} (hn : args.length ≤ 19) (h : WP Try.prog c_culletref02_Div (endQ [.t 4, .t 5] K) (initT args) w) : CallV Try.prog 102 args w K :=
  call_of follows Try.func102 (by kernel_rfl) (by kernel_rfl) hn h
def c_culletref19_Codeword : C := .seq (.ops [⟨0,some 8,none,.mov (.c (.slice none 0 0)),[]⟩]) (.seq (.ops [⟨0,some 22,none,.bsl 5 0 [.int .u8 0] [],[]⟩,⟨1,some 23,none,.mov (.t 3),[]⟩,⟨2,some 24,none,.app 5 1 [.int .u8 0] (.t 22) (.t 23),[]⟩,⟨3,some 9,none,.mov (.t 24),[]⟩]) (.seq (.seq (.ops [⟨0,some 25,none,.mov (.t 0),[]⟩,⟨1,some 26,none,.bin .eql (.t 25) (.c (.int .i64 0)),[]⟩]) (.ite (.t 26) (.seq (.ops [⟨0,some 27,none,.mov (.t 1),[]⟩,⟨1,some 28,none,.mks 3 8 [.int .i64 0] (.t 27) (.t 27),[]⟩,⟨2,some 10,none,.mov (.t 28),[]⟩]) (.seq (.seq (.ops [⟨0,some 11,none,.mov (.c (.int .i64 0)),[]⟩]) (.block 0 (.loop (.seq (.seq (.ops [⟨0,some 29,none,.mov (.t 11),[]⟩,⟨1,some 30,none,.mov (.t 1),[]⟩,⟨2,some 31,none,.bin .lss (.t 29) (.t 30),[]⟩]) (.ite (.t 31) .skip (.exit 0))) (.seq (.block 1 (.ops [⟨0,some 34,none,.mov (.t 10),[]⟩,⟨1,some 35,none,.mov (.t 11),[]⟩,⟨2,some 36,none,.mov (.t 11),[]⟩,⟨3,some 37,none,.ixs 1 (.t 34) (.t 35),[]⟩,⟨4,none,none,.st (.t 37) (.t 36),[]⟩])) (.ops [⟨0,some 32,none,.mov (.t 11),[]⟩,⟨1,some 33,none,.bin .add (.t 32) (.c (.int .i64 1)),[]⟩,⟨2,some 11,none,.mov (.t 33),[]⟩])))))) (.seq (.ops [⟨0,some 39,none,.mov (.t 10),[]⟩,⟨1,some 40,none,.mov (.t 3),[]⟩,⟨2,some 41,none,.call (.c (.func (.func 80) #[] #[])) [.t 39,.t 40],[]⟩,⟨3,some 38,none,.mov (.t 41),[]⟩,⟨4,some 42,none,.ext (.t 38) 0,[]⟩,⟨5,some 43,none,.ext (.t 38) 1,[]⟩,⟨6,some 12,none,.mov (.t 42),[]⟩,⟨7,some 13,none,.mov (.t 43),[]⟩]) (.seq (.ops [⟨0,some 45,none,.mov (.t 12),[]⟩,⟨1,some 46,none,.mov (.t 13),[]⟩,⟨2,some 47,none,.call (.c (.func (.func 81) #[] #[])) [.c (.bool false),.t 45,.t 46],[]⟩,⟨3,some 44,none,.mov (.t 47),[]⟩,⟨4,some 48,none,.ext (.t 44) 0,[]⟩,⟨5,some 49,none,.ext (.t 44) 1,[]⟩,⟨6,some 14,none,.mov (.t 48),[]⟩,⟨7,some 15,none,.mov (.t 49),[]⟩]) (.seq (.seq (.ops [⟨0,some 16,none,.mov (.c (.int .i64 0)),[]⟩]) (.block 2 (.loop (.seq (.seq (.ops [⟨0,some 50,none,.mov (.t 16),[]⟩,⟨1,some 51,none,.mov (.t 2),[]⟩,⟨2,some 52,none,.bin .lss (.t 50) (.t 51),[]⟩]) (.ite (.t 52) .skip (.exit 2))) (.seq (.block 3 (.ops [⟨0,some 55,none,.mov (.t 9),[]⟩,⟨1,some 56,none,.mov (.t 14),[]⟩,⟨2,some 57,none,.mov (.t 1),[]⟩,⟨3,some 58,none,.mov (.t 16),[]⟩,⟨4,some 59,none,.bin .add (.t 57) (.t 58),[]⟩,⟨5,some 60,none,.call (.c (.func (.func 83) #[] #[])) [.t 56,.t 59],[]⟩,⟨6,some 61,none,.bsl 5 1 [.int .u8 0] [(0,(1,.t 60))],[]⟩,⟨7,some 62,none,.app 5 1 [.int .u8 0] (.t 55) (.t 61),[]⟩,⟨8,some 9,none,.mov (.t 62),[]⟩])) (.ops [⟨0,some 53,none,.mov (.t 16),[]⟩,⟨1,some 54,none,.bin .add (.t 53) (.c (.int .i64 1)),[]⟩,⟨2,some 16,none,.mov (.t 54),[]⟩])))))) (.seq (.ops [⟨0,some 63,none,.mov (.t 9),[]⟩,⟨1,some 8,none,.mov (.t 63),[]⟩]) .ret)))))) .skip)) (.seq (.seq (.ops [⟨0,some 17,none,.mov (.c (.int .i64 0)),[]⟩]) (.block 4 (.loop (.seq (.seq (.ops [⟨0,some 64,none,.mov (.t 17),[]⟩,⟨1,some 65,none,.mov (.t 2),[]⟩,⟨2,some 66,none,.bin .lss (.t 64) (.t 65),[]⟩]) (.ite (.t 66) .skip (.exit 4))) (.seq (.block 5 (.seq (.ops [⟨0,some 18,none,.mov (.c (.int .u8 0)),[]⟩]) (.seq (.seq (.ops [⟨0,some 19,none,.mov (.c (.int .i64 0)),[]⟩]) (.block 6 (.loop (.seq (.seq (.ops [⟨0,some 69,none,.mov (.t 19),[]⟩,⟨1,some 70,none,.mov (.t 1),[]⟩,⟨2,some 71,none,.bin .lss (.t 69) (.t 70),[]⟩]) (.ite (.t 71) .skip (.exit 6))) (.seq (.block 7 (.seq (.ops [⟨0,some 75,none,.mov (.t 3),[]⟩,⟨1,some 76,none,.mov (.t 19),[]⟩,⟨2,some 77,none,.ixs 1 (.t 75) (.t 76),[]⟩,⟨3,some 78,none,.ld (.t 77),[]⟩,⟨4,some 79,none,.mov (.t 1),[]⟩,⟨5,some 80,none,.mov (.t 17),[]⟩,⟨6,some 81,none,.bin .add (.t 79) (.t 80),[]⟩,⟨7,some 82,none,.mov (.t 19),[]⟩,⟨8,some 83,none,.bin .xor (.t 81) (.t 82),[]⟩,⟨9,some 84,none,.cnv .u8 (.t 83),[]⟩,⟨10,some 85,none,.call (.c (.func (.func 102) #[] #[])) [.t 78,.t 84],[]⟩,⟨11,some 74,none,.mov (.t 85),[]⟩,⟨12,some 86,none,.ext (.t 74) 0,[]⟩,⟨13,some 87,none,.ext (.t 74) 1,[]⟩,⟨14,some 20,none,.mov (.t 86),[]⟩,⟨15,some 21,none,.mov (.t 87),[]⟩]) (.ops [⟨0,some 88,none,.mov (.t 18),[]⟩,⟨1,some 89,none,.mov (.t 20),[]⟩,⟨2,some 90,none,.bin .xor (.t 88) (.t 89),[]⟩,⟨3,some 18,none,.mov (.t 90),[]⟩]))) (.ops [⟨0,some 72,none,.mov (.t 19),[]⟩,⟨1,some 73,none,.bin .add (.t 72) (.c (.int .i64 1)),[]⟩,⟨2,some 19,none,.mov (.t 73),[]⟩])))))) (.ops [⟨0,some 91,none,.mov (.t 9),[]⟩,⟨1,some 92,none,.mov (.t 18),[]⟩,⟨2,some 93,none,.bsl 5 1 [.int .u8 0] [(0,(1,.t 92))],[]⟩,⟨3,some 94,none,.app 5 1 [.int .u8 0] (.t 91) (.t 93),[]⟩,⟨4,some 9,none,.mov (.t 94),[]⟩])))) (.ops [⟨0,some 67,none,.mov (.t 17),[]⟩,⟨1,some 68,none,.bin .add (.t 67) (.c (.int .i64 1)),[]⟩,⟨2,some 17,none,.mov (.t 68),[]⟩])))))) (.seq (.ops [⟨0,some 95,none,.mov (.t 9),[]⟩,⟨1,some 8,none,.mov (.t 95),[]⟩]) .ret))))
attribute [irreducible] c_culletref19_Codeword
theorem run_culletref19_Codeword {args : List Value} {w : World} {K : Value → World → Prop} (hn : args.length ≤ 96) (h : WP Try.prog c_culletref19_Codeword (endQ [.t 8] K) (initT args) w) : CallV Try.prog 103 args w K :=
  call_of follows Try.func103 (by kernel_rfl) (by kernel_rfl) hn h
end Go.Proofs.Ytbaljbadlfopgaa.Fw
namespace Go.Proofs.Ytbaljbadlfopgaa.Fw
open Go Go.Fw
theorem culletref02_Div_spec (w : World) (a b : El 8) (h0 : b ≠ 0) : CallV Try.prog 102 [.int .u8 (a.v.toNat : Int), .int .u8 (b.v.toNat : Int)] w fun v w' => v = .tuple #[.int .u8 ((a * b.inv).v.toNat : Int), .int .i64 0] ∧ w' = w := by
  refine run_culletref02_Div (by simp) ?_
  simp only [c_culletref02_Div, WS, ↓reduceIte, Nat.reduceEqDiff, reduceCtorEq]
  refine X_call0 ((culletref02_Inv_spec w b h0).mono ?_)
  rintro _ w1 ⟨rfl, rfl⟩
  simp (maxSteps := 1000000) (disch := omega) only [WS, ↓reduceIte, Nat.reduceEqDiff, reduceCtorEq, AS, show decide ((0 : Int) ≠ 0) = false from rfl]
  refine X_call0 ((culletref02_Mul_spec w1 a b.inv).mono ?_)
  rintro _ w2 ⟨rfl, rfl⟩
  simp (maxSteps := 1000000) (disch := omega) only [WS, ↓reduceIte, Nat.reduceEqDiff, reduceCtorEq, AS]
theorem culletref19_factor_spec (w : World) (f : Int) (K s : Nat) (hK : K ≤ 256) (hs : s < 256) : CallV Try.prog 101 [.int .i64 f, .int .i64 (K : Int), .int .i64 (s : Int)] w fun v w' => v = .int .u8 ((wt f K s).v.toNat : Int) ∧ w' = w := by
  have hone : (1 : Int) = ((1 : El 8).v.toNat : Int) := rfl
  refine run_culletref19_factor (by simp) ?_
  simp only [c_culletref19_factor, WS, ↓reduceIte, Nat.reduceEqDiff, reduceCtorEq]
  by_cases hf : f = 1
  · have ew : wt f K s = wpr s K := by unfold wt; rw [if_pos hf]
    rw [ew]
    refine loop_of (fun t w2 => w2 = w ∧ t 0 = .int .i64 f ∧ t 1 = .int .i64 (K : Int) ∧ t 2 = .int .i64 (s : Int) ∧ ∃ i : Nat, t 8 = .int .i64 (i : Int) ∧ i ≤ K ∧ t 7 = .int .u8 ((wpr s i).v.toNat : Int)) (fun t _ => K - (toI (t 8)).toNat) ⟨rfl, by simp only [WS, ↓reduceIte, Nat.reduceEqDiff, reduceCtorEq], by simp only [WS, ↓reduceIte, Nat.reduceEqDiff, reduceCtorEq], by simp only [WS, ↓reduceIte, Nat.reduceEqDiff, reduceCtorEq], 0, by simp only [WS, ↓reduceIte, Nat.reduceEqDiff, reduceCtorEq]; rfl, by omega, by simp only [WS, ↓reduceIte, Nat.reduceEqDiff, reduceCtorEq]; rfl⟩ ?_
    rintro t w2 ⟨rfl, t0, t1, t2, i, t8, hi, t7⟩
    by_cases hik : i < K
    · by_cases his : i = s
      · have e1 : wpr s (i + 1) = wpr s i := by rw [his]; show (if s = s then wpr s s else _) = _; rw [if_pos rfl]
        have d1 : ¬ ((i : Int) ≠ (s : Int)) := by omega
        simp (maxSteps := 1000000) (disch := omega) only [WS, ↓reduceIte, Nat.reduceEqDiff, reduceCtorEq, AS, t0, t1, t2, t8, t7, decide_eq_true hf, decide_eq_false d1]
        exact ⟨⟨i + 1, rfl, by omega, by rw [e1]⟩, by omega⟩
      · have e1 : wpr s (i + 1) = wpr s i * (en8 s + en8 i) := by show (if i = s then _ else _) = _; rw [if_neg his]
        have x1 := u8_xor (a := s) (b := i) hs (by omega)
        have d1 : ((i : Int) ≠ (s : Int)) := by omega
        simp (maxSteps := 1000000) (disch := omega) only [WS, ↓reduceIte, Nat.reduceEqDiff, reduceCtorEq, AS, t0, t1, t2, t8, t7, decide_eq_true hf, decide_eq_true d1, x1]
        refine X_call0 ((culletref02_Mul_spec w2 (wpr s i) (en8 s + en8 i)).mono ?_)
        rintro _ w3 ⟨rfl, rfl⟩
        simp (maxSteps := 1000000) (disch := omega) only [WS, ↓reduceIte, Nat.reduceEqDiff, reduceCtorEq, AS, t0, t1, t2, t8, t7]
        exact ⟨⟨i + 1, rfl, by omega, by rw [e1]⟩, by omega⟩
    · obtain rfl : i = K := by omega
      simp (maxSteps := 1000000) (disch := omega) only [WS, ↓reduceIte, Nat.reduceEqDiff, reduceCtorEq, AS, t0, t1, t2, t8, t7]
  · have ew : wt f K s = 1 := by unfold wt; rw [if_neg hf]
    rw [ew]
    refine loop_of (fun t w2 => w2 = w ∧ t 0 = .int .i64 f ∧ t 1 = .int .i64 (K : Int) ∧ t 8 = .int .i64 0 ∧ t 7 = .int .u8 1) (fun t _ => 0) ⟨rfl, by simp only [WS, ↓reduceIte, Nat.reduceEqDiff, reduceCtorEq], by simp only [WS, ↓reduceIte, Nat.reduceEqDiff, reduceCtorEq], by simp only [WS, ↓reduceIte, Nat.reduceEqDiff, reduceCtorEq], by simp only [WS, ↓reduceIte, Nat.reduceEqDiff, reduceCtorEq]⟩ ?_
    rintro t w2 ⟨rfl, t0, t1, t8, t7⟩
    by_cases hk : (0 : Int) < (K : Int)
    · simp (maxSteps := 1000000) (disch := omega) only [WS, ↓reduceIte, Nat.reduceEqDiff, reduceCtorEq, AS, t0, t1, t8, t7, decide_eq_true hk, decide_eq_false hf]
      exact hone ▸ rfl
    · simp (maxSteps := 1000000) (disch := omega) only [WS, ↓reduceIte, Nat.reduceEqDiff, reduceCtorEq, AS, t0, t1, t8, t7, decide_eq_false hk]
      exact hone ▸ rfl
/-- All of a column. -/
def wordV (f : Int) (K N : Nat) (g : List (El 8)) : List (El 8) := (List.range N).map (valS f K g)
theorem wordV_len (f : Int) (K N : Nat) (g : List (El 8)) : (wordV f K N g).length = N := by unfold wordV; rw [List.length_map, List.length_range]
theorem wordV_get {f : Int} {K N : Nat} {g : List (El 8)} {i : Nat} (h : i < (wordV f K N g).length) : (wordV f K N g)[i] = valS f K g i := by
  show ((List.range N).map (valS f K g))[i]'h = _
  exact (List.getElem_map ..).trans (by rw [List.getElem_range])
theorem wordV_succ (f : Int) (K N : Nat) (g : List (El 8)) : wordV f K (N + 1) g = wordV f K N g ++ [valS f K g N] := by
  unfold wordV
  rw [List.range_succ, List.map_append]; rfl
set_option maxHeartbeats 4000000 in
theorem culletref19_Codeword_spec (w : World) (f : Int) (K M : Nat) (s : Value) (D g : List (El 8)) (h : Sl w s D) (hf : f = 0 ∨ f = 1) (hk : 1 ≤ K) (hkm : K + M ≤ 256) (hg : g.length ≤ K) (hD : D = wordV f K K g) :
    CallV Try.prog 103 [.int .i64 f, .int .i64 (K : Int), .int .i64 (M : Int), s] w fun v w' => RowKit.Below w.heap.size w w' ∧ Ow w.heap.size w' v (wordV f K (K + M) g) := by
  have lD : D.length = K := by rw [hD, wordV_len]
  have hs0 := h
  refine run_culletref19_Codeword (by simp) ?_
  simp only [c_culletref19_Codeword, WS, ↓reduceIte, Nat.reduceEqDiff, reduceCtorEq]
  refine X_bslE fun p0 w1 op hB0 => ?_
  have z1 := hB0.size
  simp (maxSteps := 1000000) (disch := omega) only [WS, ↓reduceIte, Nat.reduceEqDiff, reduceCtorEq, AS]
  refine op.Xapp (h.up hB0) hB0 z1 (by simp only [maxBytes]; omega) (by decide) (by omega) fun c1 w2 oc hB _ => ?_
  rw [hD] at oc
  have oc2b := oc.blk
  have B := hB
  have h := h.up hB
  have z2 := hB.size
  clear hB hB0 op
  by_cases hf0 : f = 0
  · subst hf0
    simp (maxSteps := 1000000) (disch := omega) only [WS, ↓reduceIte, Nat.reduceEqDiff, reduceCtorEq, AS]
    refine X_mks (x := (0 : Int)) (n := K) (by simp only [maxBytes]; omega) (by omega) fun sp w3 os hB => ?_
    have z3 := hB.size
    simp (maxSteps := 1000000) (disch := omega) only [WS, ↓reduceIte, Nat.reduceEqDiff, reduceCtorEq, AS]
    refine loop_of (fun t w' => t 0 = .int .i64 0 ∧ t 1 = .int .i64 (K : Int) ∧ t 2 = .int .i64 (M : Int) ∧ t 3 = s ∧ t 9 = c1 ∧ t 10 = sp ∧ RowKit.Below w2.heap.size w2 w' ∧ ∃ (i : Nat) (PL : List Int), t 11 = .int .i64 (i : Int) ∧ i ≤ K ∧ PL.length = K ∧ (∀ j (hj : j < PL.length), j < i → PL[j] = (j : Int)) ∧ Ow w2.heap.size w' sp PL) (fun t _ => K - (toI (t 11)).toNat)
      ⟨by simp only [WS, ↓reduceIte, Nat.reduceEqDiff, reduceCtorEq], by simp only [WS, ↓reduceIte, Nat.reduceEqDiff, reduceCtorEq], by simp only [WS, ↓reduceIte, Nat.reduceEqDiff, reduceCtorEq], by simp only [WS, ↓reduceIte, Nat.reduceEqDiff, reduceCtorEq], by simp only [WS, ↓reduceIte, Nat.reduceEqDiff, reduceCtorEq], by simp only [WS, ↓reduceIte, Nat.reduceEqDiff, reduceCtorEq], hB, 0, _, by simp only [WS, ↓reduceIte, Nat.reduceEqDiff, reduceCtorEq]; rfl, by omega, List.length_replicate .., fun j hj h => absurd h (Nat.not_lt_zero _), os⟩ ?_
    clear hB os z3
    rintro t w4 ⟨t0, t1, t2, t3, t9, t10, C, i, PL, t11, hi, lP, hP, os⟩
    by_cases hik : i < K
    · have iP : i < PL.length := by omega
      simp (maxSteps := 1000000) (disch := omega) only [WS, ↓reduceIte, Nat.reduceEqDiff, reduceCtorEq, AS, t0, t1, t2, t3, t9, t10, t11, os.sl.Xix iP]
      refine Ow.Xst os iP (i : Int) fun w5 os2 hg => ?_
      have C := Below.app C C.size hg fun b hb => (os.blk b hb).1
      simp (maxSteps := 1000000) (disch := omega) only [WS, ↓reduceIte, Nat.reduceEqDiff, reduceCtorEq, AS, t0, t1, t2, t3, t9, t10, t11]
      refine ⟨⟨C, i + 1, _, rfl, by omega, by rw [List.length_set]; exact lP, fun j hj hji => ?_, os2⟩, by omega⟩
      rw [List.getElem_set]
      split
      · rename_i e; rw [e]
      · exact hP j (by rw [List.length_set] at hj; exact hj) (by omega)
    obtain rfl : i = K := by omega
    have hasc : asc PL PL.length := fun j hj _ => ⟨by rw [hP j hj (by omega)]; omega, by rw [hP j hj (by omega)]; omega, fun l hl hlj => by rw [hP j hj (by omega), hP l hl (by omega)]; omega⟩
    have z4 := C.size
    simp (maxSteps := 1000000) (disch := omega) only [WS, ↓reduceIte, Nat.reduceEqDiff, reduceCtorEq, AS, t0, t1, t2, t3, t9, t10, t11]
    refine X_call0 ((culletref19_wide_spec w4 sp s PL D os.sl (h.up C) (by omega) (by omega) hasc).mono ?_)
    rintro _ w5 ⟨B5, sx, sy, rfl, ox, oy⟩
    have C := C.trans (B5.mono z4)
    clear os
    simp (maxSteps := 1000000) (disch := omega) only [WS, ↓reduceIte, Nat.reduceEqDiff, reduceCtorEq, AS, t0, t1, t2, t3, t9, t10, t11]
    refine X_call0 ((culletref04_Interpolate_b_spec w5 sx sy (xsP PL) D ox.sl oy.sl (by rw [xsP_len]; omega) (by omega)).mono ?_)
    rintro vv w6 ⟨B6, hres⟩
    have hX := xsP_dist hasc
    obtain ⟨sf, m, rfl, of, tm, lm, hm⟩ : ∃ (s : Value) (m : List (El 8)), vv = .tuple #[s, .int .i64 0] ∧ Ow w5.heap.size w6 s (m.map em8) ∧ tr m = m ∧ m.length ≤ PL.length ∧ ∀ j, j < PL.length → evl m (nth (xsP PL) j) = nth D j := by
      rcases hres with ⟨-, -, -, -, s, m, a1, a2, a3, a4, a5⟩ | ⟨-, -, h9, -⟩ | ⟨-, -, -, h9, -⟩ | ⟨h9, -⟩
      · rw [xsP_len] at a4 a5
        exact ⟨s, m, a1, a2, a3, a4, a5⟩
      · exact absurd (by rw [xsP_len]; omega) h9
      · exact absurd (by rw [xsP_len]; exact hX) h9
      · exact absurd ⟨by rw [xsP_len]; omega, by omega⟩ h9
    clear hres ox oy
    have C := C.trans (B6.mono C.size)
    have hmg : co m = co g := by
      rw [nw_uniq hX ((co_dg m).mono lm) (Y := nth D) fun j hj => by
        rw [evn_eq ((co_dg m).mono lm) (co_dg m), ← evl_co]; exact hm j hj]
      refine (nw_uniq hX ((co_dg g).mono (by omega)) (Y := nth D) fun j hj => ?_).symm
      have jx : j < (xsP PL).length := by rw [xsP_len]; exact hj
      have jD : j < D.length := by omega
      rw [evn_eq ((co_dg g).mono (show g.length ≤ PL.length by omega)) (co_dg g), ← evl_co, nth_get jx, xsP_get PL jx hj, hP j hj (by omega), nth_get jD]
      subst hD
      rw [wordV_get jD]
      unfold valS wt
      rw [if_neg (by decide), inv_one8, El.mul_one]
      rfl
    have hval : ∀ j, evl m (en8 j) = valS 0 i g j := fun j => by
      rw [evl_eq _ hmg]
      unfold valS wt
      rw [if_neg (by decide), inv_one8, El.mul_one]
    have z6 := C.size
    have oc := oc.up C
    have hne0 : ∀ c, Fw.blk c1 = some c → Fw.blk sf ≠ some c := fun c hc e => by
      have a1 := (oc2b c hc).2
      have a2 := (of.blk c e).1
      have := B5.size
      omega
    simp (maxSteps := 1000000) (disch := omega) only [WS, ↓reduceIte, Nat.reduceEqDiff, reduceCtorEq, AS, t0, t1, t2, t3, t9, t10, t11]
    refine loop_of (fun t w' => t 1 = .int .i64 (i : Int) ∧ t 2 = .int .i64 (M : Int) ∧ t 14 = sf ∧ RowKit.Below w.heap.size w w' ∧ Ow w5.heap.size w' sf (m.map em8) ∧ ∃ (x : Nat) (sc : Value), (∀ c, Fw.blk sc = some c → Fw.blk sf ≠ some c) ∧ t 16 = .int .i64 (x : Int) ∧ x ≤ M ∧ t 9 = sc ∧ Ow w.heap.size w' sc (wordV 0 i (i + x) g)) (fun t _ => M - (toI (t 16)).toNat)
      ⟨by simp only [WS, ↓reduceIte, Nat.reduceEqDiff, reduceCtorEq]; exact t1, by simp only [WS, ↓reduceIte, Nat.reduceEqDiff, reduceCtorEq]; exact t2, by simp only [WS, ↓reduceIte, Nat.reduceEqDiff, reduceCtorEq], B.trans (C.mono z2), of, 0, _, hne0, by simp only [WS, ↓reduceIte, Nat.reduceEqDiff, reduceCtorEq]; rfl, by omega, by simp only [WS, ↓reduceIte, Nat.reduceEqDiff, reduceCtorEq]; exact t9, oc⟩ ?_
    clear t0 t1 t2 t3 t9 t10 t11 oc
    clear of hne0
    rintro t w7 ⟨t1, t2, t14, B, of, x, sc, hne, t16, hx, t9, oc⟩
    by_cases hxl : x < M
    · have ekx : IntKind.i64.wrap ((i : Int) + (x : Int)) = ((i + x : Nat) : Int) := by rw [wrap_id (by omega) (by omega)]; omega
      simp (maxSteps := 1000000) (disch := omega) only [WS, ↓reduceIte, Nat.reduceEqDiff, reduceCtorEq, AS, t1, t2, t14, t16, t9, ekx]
      refine X_call0 ((culletref19_value_spec w7 sf m (i + x) (by omega) of.sl (by omega)).mono ?_)
      rintro _ w8 ⟨rfl, rfl⟩
      simp (maxSteps := 1000000) (disch := omega) only [WS, ↓reduceIte, Nat.reduceEqDiff, reduceCtorEq, AS, t1, t2, t14, t16, t9]
      refine X_bsl (zs := [evl m (en8 (i + x))]) (by rfl) (by rfl) fun e1 w9 oe hB => ?_
      have B := B.trans (hB.mono B.size)
      have of := of.up hB
      have oc := oc.up hB
      have lw := wordV_len 0 i (i + x) g
      clear hB
      simp (maxSteps := 1000000) (disch := omega) only [WS, ↓reduceIte, Nat.reduceEqDiff, reduceCtorEq, AS, t1, t2, t14, t16, t9]
      refine Ow.Xapp oc oe.sl B.size (by simp only [List.length_singleton, maxBytes]; omega) (by simp only [List.length_singleton]; omega) fun e2 w10 oc2 hg hnr => ?_
      have B2 := Below.app B B.size hg fun b hb => (oc.blk b hb).1
      have of2 := of.gr' hg hne
      have hne2 : ∀ c, Fw.blk e2 = some c → Fw.blk sf ≠ some c := fun c hc e => by
        rcases hnr with h9 | h9
        · exact hne c (h9 ▸ hc) e
        · have := h9 c hc
          have := (of.blk c e).2
          omega
      simp (maxSteps := 1000000) (disch := omega) only [WS, ↓reduceIte, Nat.reduceEqDiff, reduceCtorEq, AS, t1, t2, t14, t16]
      exact ⟨⟨B2, of2, x + 1, e2, hne2, rfl, by omega, rfl, by rw [show i + (x + 1) = (i + x) + 1 from rfl, wordV_succ, ← hval]; exact oc2⟩, by omega⟩
    obtain rfl : x = M := by omega
    simp (maxSteps := 1000000) (disch := omega) only [WS, ↓reduceIte, Nat.reduceEqDiff, reduceCtorEq, AS, t1, t2, t14, t16, t9]
    exact ⟨B, oc⟩
  have hf1 : f = 1 := hf.resolve_left hf0
  simp (maxSteps := 1000000) (disch := omega) only [WS, ↓reduceIte, Nat.reduceEqDiff, reduceCtorEq, AS, decide_eq_false hf0]
  have oc := oc
  refine loop_of (fun t w' => t 1 = .int .i64 (K : Int) ∧ t 2 = .int .i64 (M : Int) ∧ t 3 = s ∧ RowKit.Below w.heap.size w w' ∧ ∃ (x : Nat) (sc : Value), t 17 = .int .i64 (x : Int) ∧ x ≤ M ∧ t 9 = sc ∧ Ow w.heap.size w' sc (wordV f K (K + x) g)) (fun t _ => M - (toI (t 17)).toNat)
    ⟨by simp only [WS, ↓reduceIte, Nat.reduceEqDiff, reduceCtorEq], by simp only [WS, ↓reduceIte, Nat.reduceEqDiff, reduceCtorEq], by simp only [WS, ↓reduceIte, Nat.reduceEqDiff, reduceCtorEq], B, 0, _, by simp only [WS, ↓reduceIte, Nat.reduceEqDiff, reduceCtorEq]; rfl, by omega, by simp only [WS, ↓reduceIte, Nat.reduceEqDiff, reduceCtorEq], oc⟩ ?_
  clear oc B z2
  rintro t w3 ⟨t1, t2, t3, B, x, sc, t17, hx, t9, oc⟩
  by_cases hxl : x < M
  · simp (maxSteps := 1000000) (disch := omega) only [WS, ↓reduceIte, Nat.reduceEqDiff, reduceCtorEq, AS, t1, t2, t3, t17, t9]
    refine loop_of (fun t w' => w' = w3 ∧ t 1 = .int .i64 (K : Int) ∧ t 2 = .int .i64 (M : Int) ∧ t 3 = s ∧ t 17 = .int .i64 (x : Int) ∧ t 9 = sc ∧ ∃ l : Nat, t 19 = .int .i64 (l : Int) ∧ l ≤ K ∧ t 18 = .int .u8 ((gsum l fun l => nth D l * (en8 (K + x) + en8 l).inv).v.toNat : Int)) (fun t _ => K - (toI (t 19)).toNat)
      ⟨rfl, by simp only [WS, ↓reduceIte, Nat.reduceEqDiff, reduceCtorEq]; exact t1, by simp only [WS, ↓reduceIte, Nat.reduceEqDiff, reduceCtorEq]; exact t2, by simp only [WS, ↓reduceIte, Nat.reduceEqDiff, reduceCtorEq]; exact t3, by simp only [WS, ↓reduceIte, Nat.reduceEqDiff, reduceCtorEq]; exact t17, by simp only [WS, ↓reduceIte, Nat.reduceEqDiff, reduceCtorEq]; exact t9, 0, by simp only [WS, ↓reduceIte, Nat.reduceEqDiff, reduceCtorEq]; rfl, by omega, by simp only [WS, ↓reduceIte, Nat.reduceEqDiff, reduceCtorEq]; rfl⟩ ?_
    clear t1 t2 t3 t17 t9
    rintro t w4 ⟨rfl, t1, t2, t3, t17, t9, l, t19, hl, t18⟩
    by_cases hlk : l < K
    · have h4 := hs0.up B
      have ls : l < D.length := by omega
      have ekx : IntKind.i64.wrap ((K : Int) + (x : Int)) = ((K + x : Nat) : Int) := by rw [wrap_id (by omega) (by omega)]; omega
      have x1 := u8_xor (a := K + x) (b := l) (by omega) (by omega)
      simp (maxSteps := 1000000) (disch := omega) only [WS, ↓reduceIte, Nat.reduceEqDiff, reduceCtorEq, AS, t1, t2, t3, t17, t9, t19, t18, h4.Xix ls, h4.Xld ls, cell_e8, ekx, x1]
      refine X_call0 ((culletref02_Div_spec w4 D[l] (en8 (K + x) + en8 l) (en8_ne (by omega) (by omega) (by omega))).mono ?_)
      rintro _ w5 ⟨rfl, rfl⟩
      simp (maxSteps := 1000000) (disch := omega) only [WS, ↓reduceIte, Nat.reduceEqDiff, reduceCtorEq, AS, t1, t2, t3, t17, t9, t19, t18, xor8]
      exact ⟨⟨l + 1, rfl, by omega, by rw [← nth_get ls]; rfl⟩, by omega⟩
    obtain rfl : l = K := by omega
    have ev : (gsum l fun y => nth D y * (en8 (l + x) + en8 y).inv) = valS f l g (l + x) := by
      rw [← isCol_val (f := f) (K := l) (n := l + M) hf (by omega) (by omega) hg (l + x) (by omega) (by omega)]
      refine gsum_congr fun y hy => ?_
      unfold ctm
      have yD : y < D.length := by omega
      rw [if_neg hf0, nth_get yD]
      subst hD
      rw [wordV_get yD]
    rw [ev] at t18
    simp (maxSteps := 1000000) (disch := omega) only [WS, ↓reduceIte, Nat.reduceEqDiff, reduceCtorEq, AS, t1, t2, t3, t17, t9, t19, t18]
    refine X_bsl (zs := [valS f l g (l + x)]) (by rfl) (by rfl) fun e1 w9 oe hB => ?_
    have B := B.trans (hB.mono B.size)
    have oc := oc.up hB
    have lw := wordV_len f l (l + x) g
    clear hB
    simp (maxSteps := 1000000) (disch := omega) only [WS, ↓reduceIte, Nat.reduceEqDiff, reduceCtorEq, AS, t1, t2, t3, t17, t9]
    refine Ow.Xapp oc oe.sl B.size (by simp only [List.length_singleton, maxBytes]; omega) (by simp only [List.length_singleton]; omega) fun e2 w10 oc2 hg _ => ?_
    have B := Below.app B B.size hg fun b hb => (oc.blk b hb).1
    simp (maxSteps := 1000000) (disch := omega) only [WS, ↓reduceIte, Nat.reduceEqDiff, reduceCtorEq, AS, t1, t2, t3, t17]
    exact ⟨⟨B, x + 1, e2, rfl, by omega, rfl, by rw [show l + (x + 1) = (l + x) + 1 from rfl, wordV_succ]; exact oc2⟩, by omega⟩
  obtain rfl : x = M := by omega
  simp (maxSteps := 1000000) (disch := omega) only [WS, ↓reduceIte, Nat.reduceEqDiff, reduceCtorEq, AS, t1, t2, t3, t17, t9]
  exact ⟨B, oc⟩
end Go.Proofs.Ytbaljbadlfopgaa.Fw

set_option linter.unusedVariables false
set_option linter.unusedSimpArgs false
set_option maxRecDepth 100000
set_option maxHeartbeats 1000000
namespace Go.Proofs.Ytbaljbadlfopgaa.Fw
open Go Go.Fw Go.Proofs
attribute [local irreducible] stepI
def c_culletref19_mended : C := .seq (.ops [⟨0,some 10,none,.mov (.c (.slice none 0 0)),[]⟩,⟨1,some 11,none,.mov (.c (.bool false)),[]⟩]) (.seq (.ops [⟨0,some 21,none,.mov (.t 3),[]⟩,⟨1,some 22,none,.len (.t 21),[]⟩,⟨2,some 23,none,.mks 5 1 [.int .u8 0] (.t 22) (.t 22),[]⟩,⟨3,some 12,none,.mov (.t 23),[]⟩]) (.seq (.seq (.ops [⟨0,some 13,none,.mov (.c (.int .i64 0)),[]⟩]) (.block 0 (.loop (.seq (.seq (.ops [⟨0,some 24,none,.mov (.t 13),[]⟩,⟨1,some 25,none,.mov (.t 3),[]⟩,⟨2,some 26,none,.len (.t 25),[]⟩,⟨3,some 27,none,.bin .lss (.t 24) (.t 26),[]⟩]) (.ite (.t 27) .skip (.exit 0))) (.seq (.block 1 (.dops [⟨0,some 30,none,.mov (.t 12),[]⟩,⟨1,some 31,none,.mov (.t 13),[]⟩,⟨2,some 32,none,.mov (.t 4),[]⟩,⟨3,some 33,none,.mov (.t 13),[]⟩,⟨4,some 34,none,.ixs 1 (.t 32) (.t 33),[]⟩,⟨5,some 35,none,.ld (.t 34),[]⟩,⟨6,some 36,none,.mov (.t 0),[]⟩,⟨7,some 37,none,.mov (.t 1),[]⟩,⟨8,some 38,none,.mov (.t 3),[]⟩,⟨9,some 39,none,.mov (.t 13),[]⟩,⟨10,some 40,none,.ixs 1 (.t 38) (.t 39),[]⟩,⟨11,some 41,none,.ld (.t 40),[]⟩,⟨12,some 42,none,.call (.c (.func (.func 101) #[] #[])) [.t 36,.t 37,.t 41],[5]⟩,⟨13,some 43,none,.call (.c (.func (.func 100) #[] #[])) [.t 35,.t 42],[]⟩,⟨14,some 44,none,.ixs 1 (.t 30) (.t 31),[]⟩,⟨15,none,none,.st (.t 44) (.t 43),[]⟩])) (.ops [⟨0,some 28,none,.mov (.t 13),[]⟩,⟨1,some 29,none,.bin .add (.t 28) (.c (.int .i64 1)),[]⟩,⟨2,some 13,none,.mov (.t 29),[]⟩])))))) (.seq (.ops [⟨0,some 46,none,.mov (.t 1),[]⟩,⟨1,some 47,none,.mov (.t 3),[]⟩,⟨2,some 48,none,.mov (.t 12),[]⟩,⟨3,some 49,none,.call (.c (.func (.func 82) #[] #[])) [.t 46,.t 47,.t 48],[]⟩,⟨4,some 45,none,.mov (.t 49),[]⟩,⟨5,some 50,none,.ext (.t 45) 0,[]⟩,⟨6,some 51,none,.ext (.t 45) 1,[]⟩,⟨7,some 14,none,.mov (.t 50),[]⟩,⟨8,some 15,none,.mov (.t 51),[]⟩]) (.seq (.seq (.ops [⟨0,some 52,none,.mov (.t 15),[]⟩,⟨1,some 53,none,.un .not (.t 52),[]⟩]) (.ite (.t 53) (.seq (.ops [⟨0,some 10,none,.mov (.c (.slice none 0 0)),[]⟩,⟨1,some 11,none,.mov (.c (.bool false)),[]⟩]) .ret) .skip)) (.seq (.ops [⟨0,some 54,none,.mov (.t 1),[]⟩,⟨1,some 55,none,.mks 5 1 [.int .u8 0] (.t 54) (.t 54),[]⟩,⟨2,some 16,none,.mov (.t 55),[]⟩]) (.seq (.seq (.ops [⟨0,some 17,none,.mov (.c (.int .i64 0)),[]⟩]) (.block 2 (.loop (.seq (.seq (.ops [⟨0,some 56,none,.mov (.t 17),[]⟩,⟨1,some 57,none,.mov (.t 1),[]⟩,⟨2,some 58,none,.bin .lss (.t 56) (.t 57),[]⟩]) (.ite (.t 58) .skip (.exit 2))) (.seq (.block 3 (.ops [⟨0,some 62,none,.mov (.t 16),[]⟩,⟨1,some 63,none,.mov (.t 17),[]⟩,⟨2,some 64,none,.mov (.t 14),[]⟩,⟨3,some 65,none,.mov (.t 17),[]⟩,⟨4,some 66,none,.call (.c (.func (.func 83) #[] #[])) [.t 64,.t 65],[]⟩,⟨5,some 67,none,.mov (.t 0),[]⟩,⟨6,some 68,none,.mov (.t 1),[]⟩,⟨7,some 69,none,.mov (.t 17),[]⟩,⟨8,some 70,none,.call (.c (.func (.func 101) #[] #[])) [.t 67,.t 68,.t 69],[]⟩,⟨9,some 71,none,.call (.c (.func (.func 102) #[] #[])) [.t 66,.t 70],[]⟩,⟨10,some 61,none,.mov (.t 71),[]⟩,⟨11,some 72,none,.ext (.t 61) 0,[]⟩,⟨12,some 73,none,.ext (.t 61) 1,[]⟩,⟨13,some 74,none,.ixs 1 (.t 62) (.t 63),[]⟩,⟨14,none,none,.st (.t 74) (.t 72),[]⟩])) (.ops [⟨0,some 59,none,.mov (.t 17),[]⟩,⟨1,some 60,none,.bin .add (.t 59) (.c (.int .i64 1)),[]⟩,⟨2,some 17,none,.mov (.t 60),[]⟩])))))) (.seq (.ops [⟨0,some 75,none,.mov (.t 0),[]⟩,⟨1,some 76,none,.mov (.t 1),[]⟩,⟨2,some 77,none,.mov (.t 2),[]⟩,⟨3,some 78,none,.mov (.t 16),[]⟩,⟨4,some 79,none,.call (.c (.func (.func 103) #[] #[])) [.t 75,.t 76,.t 77,.t 78],[]⟩,⟨5,some 18,none,.mov (.t 79),[]⟩]) (.seq (.ops [⟨0,some 19,none,.mov (.c (.int .i64 0)),[]⟩]) (.seq (.seq (.ops [⟨0,some 20,none,.mov (.c (.int .i64 0)),[]⟩]) (.block 4 (.loop (.seq (.seq (.ops [⟨0,some 80,none,.mov (.t 20),[]⟩,⟨1,some 81,none,.mov (.t 3),[]⟩,⟨2,some 82,none,.len (.t 81),[]⟩,⟨3,some 83,none,.bin .lss (.t 80) (.t 82),[]⟩]) (.ite (.t 83) .skip (.exit 4))) (.seq (.block 5 (.seq (.dops [⟨0,some 86,none,.mov (.t 18),[]⟩,⟨1,some 87,none,.mov (.t 3),[]⟩,⟨2,some 88,none,.mov (.t 20),[]⟩,⟨3,some 89,none,.ixs 1 (.t 87) (.t 88),[]⟩,⟨4,some 90,none,.ld (.t 89),[]⟩,⟨5,some 91,none,.ixs 1 (.t 86) (.t 90),[]⟩,⟨6,some 92,none,.ld (.t 91),[]⟩,⟨7,some 93,none,.mov (.t 4),[]⟩,⟨8,some 94,none,.mov (.t 20),[]⟩,⟨9,some 95,none,.ixs 1 (.t 93) (.t 94),[]⟩,⟨10,some 96,none,.ld (.t 95),[]⟩,⟨11,some 97,none,.bin .neq (.t 92) (.t 96),[]⟩]) (.ite (.t 97) (.ops [⟨0,some 98,none,.mov (.t 19),[]⟩,⟨1,some 99,none,.bin .add (.t 98) (.c (.int .i64 1)),[]⟩,⟨2,some 19,none,.mov (.t 99),[]⟩]) .skip))) (.ops [⟨0,some 84,none,.mov (.t 20),[]⟩,⟨1,some 85,none,.bin .add (.t 84) (.c (.int .i64 1)),[]⟩,⟨2,some 20,none,.mov (.t 85),[]⟩])))))) (.seq (.ops [⟨0,some 100,none,.mov (.t 18),[]⟩,⟨1,some 101,none,.mov (.t 19),[]⟩,⟨2,some 102,none,.mov (.t 3),[]⟩,⟨3,some 103,none,.len (.t 102),[]⟩,⟨4,some 104,none,.mov (.t 1),[]⟩,⟨5,some 105,none,.bin .sub (.t 103) (.t 104),[]⟩,⟨6,some 106,none,.bin .quo (.t 105) (.c (.int .i64 2)),[]⟩,⟨7,some 107,none,.bin .leq (.t 101) (.t 106),[]⟩,⟨8,some 10,none,.mov (.t 100),[]⟩,⟨9,some 11,none,.mov (.t 107),[]⟩]) .ret))))))))))
attribute [irreducible] c_culletref19_mended
theorem run_culletref19_mended {args : List Value} {w : World} {K : Value → World → Prop} (hn : args.length ≤ 108) (h : WP Try.prog c_culletref19_mended (endQ [.t 10, .t 11] K) (initT args) w) : CallV Try.prog 63 args w K :=
  call_of follows Try.func63 (by kernel_rfl) (by kernel_rfl) hn h
end Go.Proofs.Ytbaljbadlfopgaa.Fw
namespace Go.Proofs.Ytbaljbadlfopgaa.Fw
open Go Go.Fw
def plc (L : Nat → Nat) (n : Nat) : List Int := (prsL L n).map fun j : Nat => (j : Int)
theorem plc_len (L : Nat → Nat) (n : Nat) : (plc L n).length = (prsL L n).length := List.length_map ..
theorem plc_get {L : Nat → Nat} {n i : Nat} (h : i < (plc L n).length) (h' : i < (prsL L n).length) : (plc L n)[i] = (((prsL L n)[i] : Nat) : Int) := List.getElem_map ..
theorem xsP_plc (L : Nat → Nat) (n : Nat) : xsP (plc L n) = xsS L n := by
  unfold xsP plc xsS
  rw [List.map_map]
  exact List.map_congr_left fun j _ => rfl
theorem plc_asc {L : Nat → Nat} {n : Nat} (hn : n ≤ 256) : asc (plc L n) (plc L n).length := fun i hi _ => by
  have hi' : i < (prsL L n).length := by rw [← plc_len]; exact hi
  have h1 := prsL_get hi'
  rw [plc_get hi hi']
  refine ⟨by omega, by omega, fun j hj hji => ?_⟩
  have hj' : j < (prsL L n).length := by rw [← plc_len]; exact hj
  rw [plc_get hj hj']
  have := List.pairwise_iff_getElem.1 (prsL_pw L n) j i hj' hi' hji
  omega
theorem offP_S (f : Int) (k : Nat) (L : Nat → Nat) (n : Nat) (R : Nat → List (El 8)) (t : Nat) (g : List (El 8)) : offP g (plc L n) (ysS f k L n R t) = offS f k L n R t g := by
  unfold offP offS
  rw [xsP_plc, plc_len]
def vls (L : Nat → Nat) (n : Nat) (R : Nat → List (El 8)) (t : Nat) : List (El 8) := (prsL L n).map fun s => nth (R s) t
theorem vls_len (L : Nat → Nat) (n : Nat) (R : Nat → List (El 8)) (t : Nat) : (vls L n R t).length = (prsL L n).length := List.length_map ..
theorem vls_get {L : Nat → Nat} {n : Nat} {R : Nat → List (El 8)} {t i : Nat} (h : i < (vls L n R t).length) (h' : i < (prsL L n).length) : (vls L n R t)[i] = nth (R (prsL L n)[i]) t := List.getElem_map ..
set_option maxHeartbeats 4000000 in
theorem culletref19_mended_spec (w : World) (f : Int) (K M : Nat) (sp sv : Value) (L : Nat → Nat) (R : Nat → List (El 8)) (x : Nat) (h1 : Sl w sp (plc L (K + M))) (h2 : Sl w sv (vls L (K + M) R x)) (hf : f = 0 ∨ f = 1) (hk : 1 ≤ K) (hkm : K + M ≤ 256) (hkn : K ≤ (prsL L (K + M)).length) :
    CallV Try.prog 63 [.int .i64 f, .int .i64 (K : Int), .int .i64 (M : Int), sp, sv] w fun v w' => RowKit.Below w.heap.size w w' ∧
      ((∃ (sw : Value) (g : List (El 8)), v = .tuple #[sw, .bool true] ∧ nearS f K L (K + M) R x g ∧ Ow w.heap.size w' sw (wordV f K (K + M) g)) ∨
       (∃ sw, v = .tuple #[sw, .bool false] ∧ farS f K L (K + M) R x)) := by
  obtain ⟨N, hN⟩ : ∃ N, N = K + M := ⟨_, rfl⟩
  obtain ⟨p, hp⟩ : ∃ p, p = (prsL L N).length := ⟨_, rfl⟩
  rw [← hN] at h1 h2 hkn ⊢
  have lP := plc_len L N
  have lV := vls_len L N R x
  have lpn := prsL_len L N
  refine run_culletref19_mended (by simp) ?_
  simp only [c_culletref19_mended, WS, ↓reduceIte, Nat.reduceEqDiff, reduceCtorEq, h1.Xlen]
  refine X_mks (x := (0 : El 8)) (n := (plc L N).length) (by simp only [maxBytes]; omega) (by omega) fun sy w1 oy hB => ?_
  simp (maxSteps := 1000000) (disch := omega) only [WS, ↓reduceIte, Nat.reduceEqDiff, reduceCtorEq, AS]
  refine loop_of (fun t w' => t 0 = .int .i64 f ∧ t 1 = .int .i64 (K : Int) ∧ t 2 = .int .i64 (M : Int) ∧ t 3 = sp ∧ t 4 = sv ∧ t 12 = sy ∧ RowKit.Below w.heap.size w w' ∧ ∃ (i : Nat) (YL : List (El 8)), t 13 = .int .i64 (i : Int) ∧ i ≤ p ∧ YL.length = p ∧ (∀ j (hj : j < YL.length), j < i → YL[j] = nth (ysS f K L N R x) j) ∧ Ow w.heap.size w' sy YL) (fun t _ => p - (toI (t 13)).toNat)
    ⟨by simp only [WS, ↓reduceIte, Nat.reduceEqDiff, reduceCtorEq], by simp only [WS, ↓reduceIte, Nat.reduceEqDiff, reduceCtorEq], by simp only [WS, ↓reduceIte, Nat.reduceEqDiff, reduceCtorEq], by simp only [WS, ↓reduceIte, Nat.reduceEqDiff, reduceCtorEq], by simp only [WS, ↓reduceIte, Nat.reduceEqDiff, reduceCtorEq], by simp only [WS, ↓reduceIte, Nat.reduceEqDiff, reduceCtorEq], hB, 0, _, by simp only [WS, ↓reduceIte, Nat.reduceEqDiff, reduceCtorEq]; rfl, by omega, by rw [List.length_replicate]; omega, fun j hj h => absurd h (Nat.not_lt_zero _), oy⟩ ?_
  clear hB oy
  rintro t w2 ⟨t0, t1, t2, t3, t4, t12, B, i, YL, t13, hi, lY, hY, oy⟩
  have h1' := h1.up B
  have h2' := h2.up B
  by_cases hip : i < p
  · have i1 : i < (plc L N).length := by omega
    have i2 : i < (vls L N R x).length := by omega
    have i3 : i < (prsL L N).length := by omega
    have i4 : i < YL.length := by omega
    have g1 := plc_get i1 i3
    have g2 := vls_get i2 i3
    have hpi := prsL_get i3
    obtain ⟨q, hq⟩ : ∃ q, q = (prsL L N)[i] := ⟨_, rfl⟩
    rw [← hq] at g1 g2 hpi
    simp (maxSteps := 1000000) (disch := omega) only [WS, ↓reduceIte, Nat.reduceEqDiff, reduceCtorEq, AS, t0, t1, t2, t3, t4, t12, t13, h1'.Xlen]
    refine WP_dops ?_
    have bd := bel_drew w2
    have B := B.trans (bd.mono B.size)
    have oy := oy.up bd
    clear h1' h2'
    have h1' := h1.up B
    have h2' := h2.up B
    simp (maxSteps := 1000000) (disch := omega) only [ES, List.mem_cons, List.not_mem_nil, implies_true, forall_const, WS, ↓reduceIte, Nat.reduceEqDiff, reduceCtorEq, AS, t0, t1, t2, t3, t4, t12, t13, h1'.Eix i1, h1'.Eld i1, h2'.Eix i2, h2'.Eld i2, cell_e8, cell_int, g1, g2]
    refine E_call0 ((culletref19_factor_spec w2.drew f K q (by omega) (by omega)).mono ?_)
    have see : Fw.sees Try.prog (.ld (.c (elP sv i))) w2.drew (.int .u8 ((vls L N R x)[i].v.toNat : Int)) = True := h2'.sees i2 Try.prog
    rw [g2] at see
    rintro _ w3 ⟨rfl, rfl⟩
    simp (maxSteps := 1000000) (disch := omega) only [ES, List.mem_cons, List.not_mem_nil, implies_true, forall_const, WS, ↓reduceIte, Nat.reduceEqDiff, reduceCtorEq, AS, t0, t1, t2, t3, t4, t12, t13, see]
    refine E_call0 ((culletref02_Mul_spec w2.drew (nth (R q) x) (wt f K q)).mono ?_)
    rintro _ w3 ⟨rfl, rfl⟩
    simp (maxSteps := 1000000) (disch := omega) only [ES, List.mem_cons, List.not_mem_nil, implies_true, forall_const, WS, ↓reduceIte, Nat.reduceEqDiff, reduceCtorEq, AS, t0, t1, t2, t3, t4, t12, t13, oy.sl.Eix i4]
    refine Ow.Est oy i4 (nth (R q) x * wt f K q) fun w5 oy2 hg => ?_
    have B := Below.app B B.size hg fun b hb => (oy.blk b hb).1
    simp (maxSteps := 1000000) (disch := omega) only [ES, List.mem_cons, List.not_mem_nil, implies_true, forall_const, WS, ↓reduceIte, Nat.reduceEqDiff, reduceCtorEq, AS, t0, t1, t2, t3, t4, t12, t13]
    refine ⟨⟨B, i + 1, _, rfl, by omega, by rw [List.length_set]; exact lY, fun j hj hji => ?_, oy2⟩, by omega⟩
    rw [List.getElem_set]
    split
    · rename_i e
      subst e
      rw [ysS_nth i3, ← hq, El.mul_comm]
    · exact hY j (by rw [List.length_set] at hj; exact hj) (by omega)
  obtain rfl : i = p := by omega
  obtain rfl : YL = ysS f K L N R x := List.ext_getElem (by rw [lY, ysS_len, hp]) fun j a1 a2 => by
    rw [hY j a1 (by omega), nth_get a2]
  have z2 := B.size
  simp (maxSteps := 1000000) (disch := omega) only [WS, ↓reduceIte, Nat.reduceEqDiff, reduceCtorEq, AS, t0, t1, t2, t3, t4, t12, t13, h1'.Xlen]
  refine X_call0 ((culletref19_near_spec w2 K sp sy (plc L N) (ysS f K L N R x) h1' oy.sl hk (by omega) (by omega) (by omega) (plc_asc (by omega))).mono ?_)
  rintro vv w3 ⟨hB, hres⟩
  have h1' := h1'.up hB
  have h2' := h2'.up hB
  have B := B.trans (hB.mono B.size)
  rcases hres with ⟨sf, g, rfl, of, tg, hg, ho⟩ | ⟨sf, rfl, hfar⟩
  rotate_left
  · simp (maxSteps := 1000000) (disch := omega) only [WS, ↓reduceIte, Nat.reduceEqDiff, reduceCtorEq, AS, t0, t1, t2, t3, t4, t12, t13]
    refine ⟨B, Or.inr ⟨_, rfl, fun g tg hg => ?_⟩⟩
    have := hfar g tg hg
    rw [offP_S, lP] at this
    exact this
  rw [offP_S, lP] at ho
  have of := of.sl
  clear oy hY hB
  simp (maxSteps := 1000000) (disch := omega) only [WS, ↓reduceIte, Nat.reduceEqDiff, reduceCtorEq, AS, t0, t1, t2, t3, t4, t12, t13]
  refine X_mks (x := (0 : El 8)) (n := K) (by simp only [maxBytes]; omega) (by omega) fun sd w4 od hB => ?_
  simp (maxSteps := 1000000) (disch := omega) only [WS, ↓reduceIte, Nat.reduceEqDiff, reduceCtorEq, AS, t0, t1, t2, t3, t4, t12, t13]
  have hgl : g.length ≤ 70368744175616 := by omega
  refine loop_of (fun t w' => t 0 = .int .i64 f ∧ t 1 = .int .i64 (K : Int) ∧ t 2 = .int .i64 (M : Int) ∧ t 3 = sp ∧ t 4 = sv ∧ t 14 = sf ∧ t 16 = sd ∧ RowKit.Below w3.heap.size w3 w' ∧ ∃ (i : Nat) (DL : List (El 8)), t 17 = .int .i64 (i : Int) ∧ i ≤ K ∧ DL.length = K ∧ (∀ j (hj : j < DL.length), j < i → DL[j] = valS f K g j) ∧ Ow w3.heap.size w' sd DL) (fun t _ => K - (toI (t 17)).toNat)
    ⟨by simp only [WS, ↓reduceIte, Nat.reduceEqDiff, reduceCtorEq]; exact t0, by simp only [WS, ↓reduceIte, Nat.reduceEqDiff, reduceCtorEq]; exact t1, by simp only [WS, ↓reduceIte, Nat.reduceEqDiff, reduceCtorEq]; exact t2, by simp only [WS, ↓reduceIte, Nat.reduceEqDiff, reduceCtorEq]; exact t3, by simp only [WS, ↓reduceIte, Nat.reduceEqDiff, reduceCtorEq]; exact t4, by simp only [WS, ↓reduceIte, Nat.reduceEqDiff, reduceCtorEq], by simp only [WS, ↓reduceIte, Nat.reduceEqDiff, reduceCtorEq], hB, 0, _, by simp only [WS, ↓reduceIte, Nat.reduceEqDiff, reduceCtorEq]; rfl, by omega, List.length_replicate .., fun j hj h => absurd h (Nat.not_lt_zero _), od⟩ ?_
  clear hB od t0 t1 t2 t3 t4 t12 t13
  rintro t w5 ⟨t0, t1, t2, t3, t4, t14, t16, E, a, DL, t17, ha, lD, hD, od⟩
  by_cases hak : a < K
  · have i4 : a < DL.length := by omega
    simp (maxSteps := 1000000) (disch := omega) only [WS, ↓reduceIte, Nat.reduceEqDiff, reduceCtorEq, AS, t0, t1, t2, t3, t4, t14, t16, t17]
    refine X_call0 ((culletref19_value_spec w5 sf g a (by omega) (of.up E) hgl).mono ?_)
    rintro _ w6 ⟨rfl, rfl⟩
    simp (maxSteps := 1000000) (disch := omega) only [WS, ↓reduceIte, Nat.reduceEqDiff, reduceCtorEq, AS, t0, t1, t2, t3, t4, t14, t16, t17]
    refine X_call0 ((culletref19_factor_spec w6 f K a (by omega) (by omega)).mono ?_)
    rintro _ w7 ⟨rfl, rfl⟩
    simp (maxSteps := 1000000) (disch := omega) only [WS, ↓reduceIte, Nat.reduceEqDiff, reduceCtorEq, AS, t0, t1, t2, t3, t4, t14, t16, t17]
    refine X_call0 ((culletref02_Div_spec w7 (evl g (en8 a)) (wt f K a) (wt_ne (by omega) (by omega))).mono ?_)
    rintro _ w8 ⟨rfl, rfl⟩
    simp (maxSteps := 1000000) (disch := omega) only [WS, ↓reduceIte, Nat.reduceEqDiff, reduceCtorEq, AS, t0, t1, t2, t3, t4, t14, t16, t17, od.sl.Xix i4]
    refine Ow.Xst od i4 (evl g (en8 a) * (wt f K a).inv) fun w9 od2 hg2 => ?_
    have E := Below.app E E.size hg2 fun b hb => (od.blk b hb).1
    simp (maxSteps := 1000000) (disch := omega) only [WS, ↓reduceIte, Nat.reduceEqDiff, reduceCtorEq, AS, t0, t1, t2, t3, t4, t14, t16, t17]
    refine ⟨⟨E, a + 1, _, rfl, by omega, by rw [List.length_set]; exact lD, fun j hj hji => ?_, od2⟩, by omega⟩
    rw [List.getElem_set]
    split
    · rename_i e
      subst e
      rfl
    · exact hD j (by rw [List.length_set] at hj; exact hj) (by omega)
  have z5 : w.heap.size ≤ w5.heap.size := by have := B.size; have := E.size; omega
  obtain rfl : a = K := by omega
  have eD : DL = wordV f a a g := List.ext_getElem (by rw [lD, wordV_len]) fun j a1 a2 => by
    rw [hD j a1 (by omega), wordV_get a2]
  simp (maxSteps := 1000000) (disch := omega) only [WS, ↓reduceIte, Nat.reduceEqDiff, reduceCtorEq, AS, t0, t1, t2, t3, t4, t14, t16, t17]
  refine X_call0 ((culletref19_Codeword_spec w5 f a M sd DL g od.sl hf hk hkm hg eD).mono ?_)
  rintro sw w6 ⟨hB, ow⟩
  have E := E.trans (hB.mono E.size)
  clear od eD hD lD hB
  rw [← hN] at ow
  have zE := E.size
  have hw := wordV_len f a N g
  have hcnt := offS_len (f := f) (K := a) (L := L) (n := N) (R := R) (t := x) (g := g) (by omega) (by omega)
  simp (maxSteps := 1000000) (disch := omega) only [WS, ↓reduceIte, Nat.reduceEqDiff, reduceCtorEq, AS, t0, t1, t2, t3, t4, t14, t16, t17]
  refine loop_of (fun t w' => t 1 = .int .i64 (a : Int) ∧ t 3 = sp ∧ t 4 = sv ∧ t 18 = sw ∧ RowKit.Below w6.heap.size w6 w' ∧ ∃ c : Nat, t 20 = .int .i64 (c : Int) ∧ c ≤ i ∧ t 19 = .int .i64 ((((prsL L N).take c).filter fun s => !decide (nth (R s) x = valS f a g s)).length : Int)) (fun t _ => i - (toI (t 20)).toNat)
    ⟨by simp only [WS, ↓reduceIte, Nat.reduceEqDiff, reduceCtorEq]; exact t1, by simp only [WS, ↓reduceIte, Nat.reduceEqDiff, reduceCtorEq]; exact t3, by simp only [WS, ↓reduceIte, Nat.reduceEqDiff, reduceCtorEq]; exact t4, by simp only [WS, ↓reduceIte, Nat.reduceEqDiff, reduceCtorEq], RowKit.Below.refl _ _, 0, by simp only [WS, ↓reduceIte, Nat.reduceEqDiff, reduceCtorEq]; rfl, by omega, by simp only [WS, ↓reduceIte, Nat.reduceEqDiff, reduceCtorEq]; rfl⟩ ?_
  clear t0 t1 t2 t3 t4 t14 t16 t17
  have B := B.trans (E.mono B.size)
  have h1' := h1'.up E
  have h2' := h2'.up E
  clear E of
  rintro t w7 ⟨t1, t3, t4, t18, E, c, t20, hc, t19⟩
  have h17 := h1'.up E
  have h27 := h2'.up E
  have ow7 := ow.up E
  by_cases hcl : c < i
  · have i1 : c < (plc L N).length := by omega
    have i2 : c < (vls L N R x).length := by omega
    have i3 : c < (prsL L N).length := by omega
    have g1 := plc_get i1 i3
    have g2 := vls_get i2 i3
    have hpi := prsL_get i3
    have etk := List.take_succ_eq_append_getElem i3
    obtain ⟨q, hq⟩ : ∃ q, q = (prsL L N)[c] := ⟨_, rfl⟩
    rw [← hq] at g1 g2 hpi etk
    have iw : q < (wordV f a N g).length := by omega
    have g3 := wordV_get iw
    have hpl : (((prsL L N).take c).filter fun s => !decide (nth (R s) x = valS f a g s)).length ≤ c := by
      have := List.length_filter_le (fun s => !decide (nth (R s) x = valS f a g s)) ((prsL L N).take c)
      have := List.length_take_le c (prsL L N)
      omega
    simp (maxSteps := 1000000) (disch := omega) only [WS, ↓reduceIte, Nat.reduceEqDiff, reduceCtorEq, AS, t1, t3, t4, t18, t20, t19, h17.Xlen]
    refine WP_dops ?_
    have bd := bel_drew w7
    have E := E.trans (bd.mono E.size)
    clear h17 h27 ow7 bd
    have h17 := h1'.up E
    have h27 := h2'.up E
    have ow7 := ow.up E
    by_cases heq : nth (R q) x = valS f a g q
    · rw [heq] at g2
      simp (maxSteps := 1000000) (disch := omega) only [ES, List.mem_cons, List.not_mem_nil, implies_true, forall_const, WS, ↓reduceIte, Nat.reduceEqDiff, reduceCtorEq, AS, t1, t3, t4, t18, t20, t19, h17.Eix i1, h17.Eld i1, cell_int, g1, ow7.sl.Eix iw, ow7.sl.Eld iw, cell_e8, g3, h27.Eix i2, h27.Eld i2, g2, ne_eq, not_true_eq_false, decide_false]
      refine ⟨⟨E, c + 1, rfl, by omega, ?_⟩, by omega⟩
      rw [etk, List.filter_append]
      simp only [List.filter_cons, List.filter_nil, heq, decide_true, Bool.not_true, Bool.false_eq_true, if_false, List.append_nil]
    · have hne : ((valS f a g q).v.toNat : Int) ≠ ((nth (R q) x).v.toNat : Int) := fun e => heq (El.ext (BitVec.eq_of_toNat_eq (by omega)))
      simp (maxSteps := 1000000) (disch := omega) only [ES, List.mem_cons, List.not_mem_nil, implies_true, forall_const, WS, ↓reduceIte, Nat.reduceEqDiff, reduceCtorEq, AS, t1, t3, t4, t18, t20, t19, h17.Eix i1, h17.Eld i1, cell_int, g1, ow7.sl.Eix iw, ow7.sl.Eld iw, cell_e8, g3, h27.Eix i2, h27.Eld i2, g2, decide_eq_true hne]
      refine ⟨⟨E, c + 1, rfl, by omega, ?_⟩, by omega⟩
      rw [etk, List.filter_append, List.length_append]
      simp only [List.filter_cons, List.filter_nil, heq, decide_false, Bool.not_false, if_true, List.length_singleton]
  obtain rfl : c = i := by omega
  have e1 : IntKind.i64.wrap ((c : Int) - (a : Int)) = ((c - a : Nat) : Int) := by rw [wrap_id (by omega) (by omega)]; omega
  have q3 : ((c - a : Nat) : Int).tdiv 2 = (((c - a) / 2 : Nat) : Int) := (Int.ofNat_tdiv _ 2).symm
  have q4 : IntKind.i64.wrap (((c - a) / 2 : Nat) : Int) = (((c - a) / 2 : Nat) : Int) := w_nat _ (by omega)
  have hn2 : ((2 : Int) ≠ 0) = True := eq_true (by decide)
  rw [hp, List.take_length, ← hcnt] at t19
  have lP' : ((plc L N).length : Int) = (c : Int) := by omega
  have ho' : ((offS f a L N R x g).length : Int) ≤ (((c - a) / 2 : Nat) : Int) := by omega
  simp (maxSteps := 1000000) (disch := omega) only [WS, ↓reduceIte, Nat.reduceEqDiff, reduceCtorEq, AS, t1, t3, t4, t18, t20, t19, h17.Xlen, lP', e1, X_quo, hn2, q3, q4, decide_eq_true ho']
  exact ⟨B.trans (E.mono B.size), Or.inl ⟨sw, g, rfl, ⟨tg, hg, by omega⟩, (ow.mono (by omega)).up E⟩⟩
end Go.Proofs.Ytbaljbadlfopgaa.Fw

set_option linter.unusedVariables false
set_option linter.unusedSimpArgs false
set_option maxRecDepth 100000
set_option maxHeartbeats 1000000
namespace Go.Proofs.Ytbaljbadlfopgaa.Fw
open Go Go.Fw Go.Proofs
attribute [local irreducible] stepI
def c_culletref16_Partial : C := .seq (.ops [⟨0,some 8,none,.mov (.c (.int .i64 0)),[]⟩,⟨1,some 9,none,.mov (.c (.slice none 0 0)),[]⟩,⟨2,some 10,none,.mov (.c (.int .i64 0)),[]⟩]) (.seq (.ops [⟨0,some 14,none,.mov (.t 0),[]⟩,⟨1,some 15,none,.mov (.t 1),[]⟩,⟨2,some 16,none,.mov (.t 2),[]⟩,⟨3,some 17,none,.call (.c (.func (.func 96) #[] #[])) [.t 14,.t 15,.t 16],[]⟩,⟨4,some 11,none,.mov (.t 17),[]⟩]) (.seq (.seq (.ops [⟨0,some 18,none,.mov (.t 11),[]⟩,⟨1,some 19,none,.bin .neq (.t 18) (.c (.int .i64 0)),[]⟩]) (.ite (.t 19) (.seq (.ops [⟨0,some 20,none,.mov (.t 11),[]⟩,⟨1,some 8,none,.mov (.c (.int .i64 0)),[]⟩,⟨2,some 9,none,.mov (.c (.slice none 0 0)),[]⟩,⟨3,some 10,none,.mov (.t 20),[]⟩]) .ret) .skip)) (.seq (.seq (.ops [⟨0,some 21,none,.mov (.t 3),[]⟩,⟨1,some 22,none,.len (.t 21),[]⟩,⟨2,some 23,none,.mov (.t 1),[]⟩,⟨3,some 24,none,.mov (.t 2),[]⟩,⟨4,some 25,none,.bin .add (.t 23) (.t 24),[]⟩,⟨5,some 26,none,.bin .neq (.t 22) (.t 25),[]⟩]) (.ite (.t 26) (.seq (.ops [⟨0,some 8,none,.mov (.c (.int .i64 0)),[]⟩,⟨1,some 9,none,.mov (.c (.slice none 0 0)),[]⟩,⟨2,some 10,none,.mov (.c (.int .i64 160)),[]⟩]) .ret) .skip)) (.seq (.ops [⟨0,some 27,none,.mov (.t 3),[]⟩,⟨1,some 28,none,.call (.c (.func (.func 97) #[] #[])) [.t 27],[]⟩,⟨2,some 12,none,.mov (.t 28),[]⟩]) (.seq (.seq (.ops [⟨0,some 29,none,.mov (.t 12),[]⟩,⟨1,some 30,none,.len (.t 29),[]⟩,⟨2,some 31,none,.mov (.t 1),[]⟩,⟨3,some 32,none,.mov (.t 2),[]⟩,⟨4,some 33,none,.bin .add (.t 31) (.t 32),[]⟩,⟨5,some 34,none,.bin .eql (.t 30) (.t 33),[]⟩]) (.ite (.t 34) (.seq (.ops [⟨0,some 8,none,.mov (.c (.int .i64 0)),[]⟩,⟨1,some 9,none,.mov (.c (.slice none 0 0)),[]⟩,⟨2,some 10,none,.mov (.c (.int .i64 161)),[]⟩]) .ret) .skip)) (.seq (.seq (.ops [⟨0,some 35,none,.mov (.t 3),[]⟩,⟨1,some 36,none,.call (.c (.func (.func 98) #[] #[])) [.t 35,.c (.bool true)],[]⟩]) (.ite (.t 36) (.seq (.ops [⟨0,some 8,none,.mov (.c (.int .i64 0)),[]⟩,⟨1,some 9,none,.mov (.c (.slice none 0 0)),[]⟩,⟨2,some 10,none,.mov (.c (.int .i64 162)),[]⟩]) .ret) .skip)) (.seq (.ops [⟨0,some 37,none,.mov (.t 3),[]⟩,⟨1,some 38,none,.call (.c (.func (.func 99) #[] #[])) [.t 37],[]⟩,⟨2,some 13,none,.mov (.t 38),[]⟩]) (.seq (.seq (.ops [⟨0,some 39,none,.mov (.t 0),[]⟩,⟨1,some 40,none,.bin .eql (.t 39) (.c (.int .i64 2)),[]⟩,⟨2,some 41,none,.mov (.t 40),[]⟩,⟨3,some 42,(some (41,true)),.mov (.t 13),[]⟩,⟨4,some 43,(some (41,true)),.bin .rem (.t 42) (.c (.int .i64 2)),[]⟩,⟨5,some 44,(some (41,true)),.bin .eql (.t 43) (.c (.int .i64 1)),[]⟩,⟨6,some 45,none,.pick (.t 41) (.t 44) (.c (.bool false)),[]⟩]) (.ite (.t 45) (.seq (.ops [⟨0,some 8,none,.mov (.c (.int .i64 0)),[]⟩,⟨1,some 9,none,.mov (.c (.slice none 0 0)),[]⟩,⟨2,some 10,none,.mov (.c (.int .i64 8)),[]⟩]) .ret) .skip)) (.seq (.seq (.ops [⟨0,some 46,none,.mov (.t 1),[]⟩,⟨1,some 47,none,.mov (.t 2),[]⟩,⟨2,some 48,none,.bin .add (.t 46) (.t 47),[]⟩,⟨3,some 49,none,.mov (.t 12),[]⟩,⟨4,some 50,none,.len (.t 49),[]⟩,⟨5,some 51,none,.bin .sub (.t 48) (.t 50),[]⟩,⟨6,some 52,none,.mov (.t 1),[]⟩,⟨7,some 53,none,.bin .lss (.t 51) (.t 52),[]⟩]) (.ite (.t 53) (.seq (.ops [⟨0,some 8,none,.mov (.c (.int .i64 0)),[]⟩,⟨1,some 9,none,.mov (.c (.slice none 0 0)),[]⟩,⟨2,some 10,none,.mov (.c (.int .i64 9)),[]⟩]) .ret) .skip)) (.seq (.ops [⟨0,some 54,none,.mov (.t 13),[]⟩,⟨1,some 55,none,.mov (.t 12),[]⟩,⟨2,some 8,none,.mov (.t 54),[]⟩,⟨3,some 9,none,.mov (.t 55),[]⟩,⟨4,some 10,none,.mov (.c (.int .i64 0)),[]⟩]) .ret))))))))))
attribute [irreducible] c_culletref16_Partial
theorem run_culletref16_Partial {args : List Value} {w : World} {K : Value → World → Prop} (hn : args.length ≤ 56) (h : WP Try.prog c_culletref16_Partial (endQ [.t 8, .t 9, .t 10] K) (initT args) w) : CallV Try.prog 62 args w K :=
  call_of follows Try.func62 (by kernel_rfl) (by kernel_rfl) hn h
def c_culletref16_Params : C := .seq (.ops [⟨0,some 6,none,.mov (.c (.int .i64 0)),[]⟩]) (.seq (.seq (.ops [⟨0,some 9,none,.mov (.t 0),[]⟩,⟨1,some 10,none,.bin .neq (.t 9) (.c (.int .i64 0)),[]⟩,⟨2,some 11,none,.mov (.t 10),[]⟩,⟨3,some 12,(some (11,true)),.mov (.t 0),[]⟩,⟨4,some 13,(some (11,true)),.bin .neq (.t 12) (.c (.int .i64 1)),[]⟩,⟨5,some 14,none,.pick (.t 11) (.t 13) (.c (.bool false)),[]⟩,⟨6,some 15,none,.mov (.t 14),[]⟩,⟨7,some 16,(some (15,true)),.mov (.t 0),[]⟩,⟨8,some 17,(some (15,true)),.bin .neq (.t 16) (.c (.int .i64 2)),[]⟩,⟨9,some 18,none,.pick (.t 15) (.t 17) (.c (.bool false)),[]⟩]) (.ite (.t 18) (.seq (.ops [⟨0,some 6,none,.mov (.c (.int .i64 2)),[]⟩]) .ret) .skip)) (.seq (.seq (.ops [⟨0,some 19,none,.mov (.t 1),[]⟩,⟨1,some 20,none,.bin .lss (.t 19) (.c (.int .i64 1)),[]⟩,⟨2,some 21,none,.mov (.t 20),[]⟩,⟨3,some 22,(some (21,false)),.mov (.t 2),[]⟩,⟨4,some 23,(some (21,false)),.bin .lss (.t 22) (.c (.int .i64 1)),[]⟩,⟨5,some 24,none,.pick (.t 21) (.c (.bool true)) (.t 23),[]⟩,⟨6,some 25,none,.mov (.t 24),[]⟩,⟨7,some 26,(some (25,false)),.mov (.t 1),[]⟩,⟨8,some 27,(some (25,false)),.bin .gtr (.t 26) (.c (.int .i64 65536)),[]⟩,⟨9,some 28,none,.pick (.t 25) (.c (.bool true)) (.t 27),[]⟩,⟨10,some 29,none,.mov (.t 28),[]⟩,⟨11,some 30,(some (29,false)),.mov (.t 2),[]⟩,⟨12,some 31,(some (29,false)),.bin .gtr (.t 30) (.c (.int .i64 65536)),[]⟩,⟨13,some 32,none,.pick (.t 29) (.c (.bool true)) (.t 31),[]⟩]) (.ite (.t 32) (.seq (.ops [⟨0,some 6,none,.mov (.c (.int .i64 4)),[]⟩]) .ret) .skip)) (.seq (.seq (.ops [⟨0,some 33,none,.mov (.t 0),[]⟩,⟨1,some 34,none,.bin .neq (.t 33) (.c (.int .i64 2)),[]⟩]) (.ite (.t 34) (.seq (.seq (.ops [⟨0,some 35,none,.mov (.t 1),[]⟩,⟨1,some 36,none,.mov (.t 2),[]⟩,⟨2,some 37,none,.bin .add (.t 35) (.t 36),[]⟩,⟨3,some 38,none,.bin .gtr (.t 37) (.c (.int .i64 256)),[]⟩]) (.ite (.t 38) (.seq (.ops [⟨0,some 6,none,.mov (.c (.int .i64 4)),[]⟩]) .ret) .skip)) (.seq (.ops [⟨0,some 6,none,.mov (.c (.int .i64 0)),[]⟩]) .ret)) .skip)) (.seq (.ops [⟨0,some 40,none,.mov (.t 2),[]⟩,⟨1,some 41,none,.call (.c (.func (.func 135) #[] #[])) [.t 40],[]⟩,⟨2,some 39,none,.mov (.t 41),[]⟩,⟨3,some 42,none,.ext (.t 39) 0,[]⟩,⟨4,some 43,none,.ext (.t 39) 1,[]⟩,⟨5,some 7,none,.mov (.t 42),[]⟩,⟨6,some 8,none,.mov (.t 43),[]⟩]) (.seq (.seq (.ops [⟨0,some 44,none,.mov (.t 7),[]⟩,⟨1,some 45,none,.mov (.t 1),[]⟩,⟨2,some 46,none,.bin .add (.t 44) (.t 45),[]⟩,⟨3,some 47,none,.bin .gtr (.t 46) (.c (.int .i64 65536)),[]⟩]) (.ite (.t 47) (.seq (.ops [⟨0,some 6,none,.mov (.c (.int .i64 4)),[]⟩]) .ret) .skip)) (.seq (.ops [⟨0,some 6,none,.mov (.c (.int .i64 0)),[]⟩]) .ret))))))
attribute [irreducible] c_culletref16_Params
theorem run_culletref16_Params {args : List Value} {w : World} {K : Value → World → Prop} (hn : args.length ≤ 48) (h : WP Try.prog c_culletref16_Params (endQ [.t 6] K) (initT args) w) : CallV Try.prog 96 args w K :=
  call_of follows Try.func96 (by kernel_rfl) (by kernel_rfl) hn h
def c_culletref16_empties : C := .seq (.ops [⟨0,some 2,none,.mov (.c (.slice none 0 0)),[]⟩]) (.seq (.ops [⟨0,some 3,none,.mov (.c (.slice none 0 0)),[]⟩]) (.seq (.seq (.ops [⟨0,some 4,none,.mov (.c (.int .i64 0)),[]⟩]) (.block 0 (.loop (.seq (.seq (.ops [⟨0,some 5,none,.mov (.t 4),[]⟩,⟨1,some 6,none,.mov (.t 0),[]⟩,⟨2,some 7,none,.len (.t 6),[]⟩,⟨3,some 8,none,.bin .lss (.t 5) (.t 7),[]⟩]) (.ite (.t 8) .skip (.exit 0))) (.seq (.block 1 (.seq (.ops [⟨0,some 11,none,.mov (.t 0),[]⟩,⟨1,some 12,none,.mov (.t 4),[]⟩,⟨2,some 13,none,.ixs 1 (.t 11) (.t 12),[]⟩,⟨3,some 14,none,.ld (.t 13),[]⟩,⟨4,some 15,none,.len (.t 14),[]⟩,⟨5,some 16,none,.bin .eql (.t 15) (.c (.int .i64 0)),[]⟩]) (.ite (.t 16) (.ops [⟨0,some 17,none,.mov (.t 3),[]⟩,⟨1,some 18,none,.mov (.t 4),[]⟩,⟨2,some 19,none,.bsl 3 1 [.int .i64 0] [(0,(1,.t 18))],[]⟩,⟨3,some 20,none,.app 3 8 [.int .i64 0] (.t 17) (.t 19),[]⟩,⟨4,some 3,none,.mov (.t 20),[]⟩]) .skip))) (.ops [⟨0,some 9,none,.mov (.t 4),[]⟩,⟨1,some 10,none,.bin .add (.t 9) (.c (.int .i64 1)),[]⟩,⟨2,some 4,none,.mov (.t 10),[]⟩])))))) (.seq (.ops [⟨0,some 21,none,.mov (.t 3),[]⟩,⟨1,some 2,none,.mov (.t 21),[]⟩]) .ret)))
attribute [irreducible] c_culletref16_empties
theorem run_culletref16_empties {args : List Value} {w : World} {K : Value → World → Prop} (hn : args.length ≤ 22) (h : WP Try.prog c_culletref16_empties (endQ [.t 2] K) (initT args) w) : CallV Try.prog 97 args w K :=
  call_of follows Try.func97 (by kernel_rfl) (by kernel_rfl) hn h
def c_culletref16_unlike : C := .seq (.ops [⟨0,some 4,none,.mov (.c (.bool false)),[]⟩]) (.seq (.ops [⟨0,some 5,none,.mov (.c (.int .i64 (-1))),[]⟩]) (.seq (.seq (.ops [⟨0,some 6,none,.mov (.c (.int .i64 0)),[]⟩]) (.block 0 (.loop (.seq (.seq (.ops [⟨0,some 7,none,.mov (.t 6),[]⟩,⟨1,some 8,none,.mov (.t 0),[]⟩,⟨2,some 9,none,.len (.t 8),[]⟩,⟨3,some 10,none,.bin .lss (.t 7) (.t 9),[]⟩]) (.ite (.t 10) .skip (.exit 0))) (.seq (.block 1 (.seq (.seq (.ops [⟨0,some 13,none,.mov (.t 1),[]⟩,⟨1,some 14,none,.mov (.t 13),[]⟩,⟨2,some 15,(some (14,true)),.mov (.t 0),[]⟩,⟨3,some 16,(some (14,true)),.mov (.t 6),[]⟩,⟨4,some 17,(some (14,true)),.ixs 1 (.t 15) (.t 16),[]⟩,⟨5,some 18,(some (14,true)),.ld (.t 17),[]⟩,⟨6,some 19,(some (14,true)),.len (.t 18),[]⟩,⟨7,some 20,(some (14,true)),.bin .eql (.t 19) (.c (.int .i64 0)),[]⟩,⟨8,some 21,none,.pick (.t 14) (.t 20) (.c (.bool false)),[]⟩]) (.ite (.t 21) (.exit 1) .skip)) (.seq (.seq (.ops [⟨0,some 22,none,.mov (.t 5),[]⟩,⟨1,some 23,none,.bin .geq (.t 22) (.c (.int .i64 0)),[]⟩,⟨2,some 24,none,.mov (.t 23),[]⟩,⟨3,some 25,(some (24,true)),.mov (.t 0),[]⟩,⟨4,some 26,(some (24,true)),.mov (.t 6),[]⟩,⟨5,some 27,(some (24,true)),.ixs 1 (.t 25) (.t 26),[]⟩,⟨6,some 28,(some (24,true)),.ld (.t 27),[]⟩,⟨7,some 29,(some (24,true)),.len (.t 28),[]⟩,⟨8,some 30,(some (24,true)),.mov (.t 5),[]⟩,⟨9,some 31,(some (24,true)),.bin .neq (.t 29) (.t 30),[]⟩,⟨10,some 32,none,.pick (.t 24) (.t 31) (.c (.bool false)),[]⟩]) (.ite (.t 32) (.seq (.ops [⟨0,some 4,none,.mov (.c (.bool true)),[]⟩]) .ret) .skip)) (.ops [⟨0,some 33,none,.mov (.t 0),[]⟩,⟨1,some 34,none,.mov (.t 6),[]⟩,⟨2,some 35,none,.ixs 1 (.t 33) (.t 34),[]⟩,⟨3,some 36,none,.ld (.t 35),[]⟩,⟨4,some 37,none,.len (.t 36),[]⟩,⟨5,some 5,none,.mov (.t 37),[]⟩])))) (.ops [⟨0,some 11,none,.mov (.t 6),[]⟩,⟨1,some 12,none,.bin .add (.t 11) (.c (.int .i64 1)),[]⟩,⟨2,some 6,none,.mov (.t 12),[]⟩])))))) (.seq (.ops [⟨0,some 4,none,.mov (.c (.bool false)),[]⟩]) .ret)))
attribute [irreducible] c_culletref16_unlike
theorem run_culletref16_unlike {args : List Value} {w : World} {K : Value → World → Prop} (hn : args.length ≤ 38) (h : WP Try.prog c_culletref16_unlike (endQ [.t 4] K) (initT args) w) : CallV Try.prog 98 args w K :=
  call_of follows Try.func98 (by kernel_rfl) (by kernel_rfl) hn h
def c_culletref16_longest : C := .seq (.ops [⟨0,some 2,none,.mov (.c (.int .i64 0)),[]⟩]) (.seq (.ops [⟨0,some 3,none,.mov (.c (.int .i64 0)),[]⟩]) (.seq (.seq (.ops [⟨0,some 4,none,.mov (.c (.int .i64 0)),[]⟩]) (.block 0 (.loop (.seq (.seq (.ops [⟨0,some 5,none,.mov (.t 4),[]⟩,⟨1,some 6,none,.mov (.t 0),[]⟩,⟨2,some 7,none,.len (.t 6),[]⟩,⟨3,some 8,none,.bin .lss (.t 5) (.t 7),[]⟩]) (.ite (.t 8) .skip (.exit 0))) (.seq (.block 1 (.seq (.ops [⟨0,some 11,none,.mov (.t 0),[]⟩,⟨1,some 12,none,.mov (.t 4),[]⟩,⟨2,some 13,none,.ixs 1 (.t 11) (.t 12),[]⟩,⟨3,some 14,none,.ld (.t 13),[]⟩,⟨4,some 15,none,.len (.t 14),[]⟩,⟨5,some 16,none,.mov (.t 3),[]⟩,⟨6,some 17,none,.bin .gtr (.t 15) (.t 16),[]⟩]) (.ite (.t 17) (.ops [⟨0,some 18,none,.mov (.t 0),[]⟩,⟨1,some 19,none,.mov (.t 4),[]⟩,⟨2,some 20,none,.ixs 1 (.t 18) (.t 19),[]⟩,⟨3,some 21,none,.ld (.t 20),[]⟩,⟨4,some 22,none,.len (.t 21),[]⟩,⟨5,some 3,none,.mov (.t 22),[]⟩]) .skip))) (.ops [⟨0,some 9,none,.mov (.t 4),[]⟩,⟨1,some 10,none,.bin .add (.t 9) (.c (.int .i64 1)),[]⟩,⟨2,some 4,none,.mov (.t 10),[]⟩])))))) (.seq (.ops [⟨0,some 23,none,.mov (.t 3),[]⟩,⟨1,some 2,none,.mov (.t 23),[]⟩]) .ret)))
attribute [irreducible] c_culletref16_longest
theorem run_culletref16_longest {args : List Value} {w : World} {K : Value → World → Prop} (hn : args.length ≤ 24) (h : WP Try.prog c_culletref16_longest (endQ [.t 2] K) (initT args) w) : CallV Try.prog 99 args w K :=
  call_of follows Try.func99 (by kernel_rfl) (by kernel_rfl) hn h
end Go.Proofs.Ytbaljbadlfopgaa.Fw
namespace Go.Proofs.Ytbaljbadlfopgaa.Fw
open Go Go.Fw
theorem Lns.uniq {L : Nat → Nat} {n len len' : Nat} {ev ev' : Bool} (h : Lns L n len ev) (h' : Lns L n len' ev') (hev : ev = true ∨ ev' = true) : len = len' ∧ ev = ev' := by
  have key : ∀ {len len' : Nat} {ev ev' : Bool}, Lns L n len ev → Lns L n len' ev' → ev = true → len = len' ∧ ev' = true := fun {len len' ev ev'} h h' he => by
    have hl : len = len' := by
      by_cases h0 : len = 0
      · rw [h0]; exact (h'.z.2 (h.z.1 h0)).symm
      · by_cases h0' : len' = 0
        · exact absurd (h.z.2 (h'.z.1 h0')) h0
        · obtain ⟨j, hj, e⟩ := h'.m h0'
          rcases h.e.1 he j hj with e2 | e2
          · omega
          · omega
    subst hl
    exact ⟨rfl, h'.e.2 (h.e.1 he)⟩
  rcases hev with he | he
  · obtain ⟨a, b⟩ := key h h' he
    exact ⟨a, by rw [he, b]⟩
  · obtain ⟨a, b⟩ := key h' h he
    exact ⟨a.symm, by rw [he, b]⟩
theorem wer_uniq {f k m : Int} {L : Nat → Nat} {n len len' : Nat} {ev ev' : Bool} (h : cnt f k m n = 0 → Lns L n len ev) (h' : cnt f k m n = 0 → Lns L n len' ev') : wer f k m L n len ev = wer f k m L n len' ev' := by
  unfold wer
  by_cases hf : f = 0 ∨ f = 1
  · rw [if_pos hf, if_pos hf]
    unfold prt
    by_cases h0 : cnt f k m n = 0
    · simp only [ne_eq, h0, not_true_eq_false, if_false]
      have a := h h0
      have b := h' h0
      by_cases hev : ev = true ∨ ev' = true
      · obtain ⟨rfl, rfl⟩ := a.uniq b hev
        rfl
      · have e1 : ev = false := by cases ev; rfl; exact absurd (Or.inl rfl) hev
        have e2 : ev' = false := by cases ev'; rfl; exact absurd (Or.inr rfl) hev
        subst e1 e2
        by_cases hl : len = 0
        · have := b.z.2 (a.z.1 hl)
          simp only [hl, this, if_true]
        · have h9 : len' ≠ 0 := fun e => hl (a.z.2 (b.z.1 e))
          simp only [hl, h9, if_false, if_true]
    · simp only [ne_eq, h0, not_false_eq_true, if_true]
  · rw [if_neg hf, if_neg hf]
theorem culletref16_Params_spec (w : World) (f k m : Int) (hf : f = 0 ∨ f = 1) : CallV Try.prog 96 [.int .i64 f, .int .i64 k, .int .i64 m] w fun v w' => v = .int .i64 (prm f k m) ∧ w' = w := by
  refine run_culletref16_Params (by simp) ?_
  simp only [c_culletref16_Params, WS, ↓reduceIte, Nat.reduceEqDiff, reduceCtorEq]
  have f2 : f ≠ 2 := by omega
  have hp : prm f k m = if k < 1 ∨ m < 1 ∨ 65536 < k ∨ 65536 < m then 4 else if 256 < k + m then 4 else 0 := by
    unfold prm
    rw [if_neg (fun h => h ⟨by omega, by omega⟩)]
    split
    · rfl
    · by_cases h6 : 256 < k + m
      · rw [if_pos ⟨f2, h6⟩, if_pos h6]
      · rw [if_neg (fun h => h6 h.2), if_neg (fun h => f2 h.1), if_neg h6]
  rw [hp]
  clear hp
  by_cases hf0 : f = 0
  · have d0 : ¬ f ≠ 0 := fun e => e hf0
    by_cases hbig : k < 1 ∨ m < 1 ∨ 65536 < k ∨ 65536 < m
    · rw [if_pos hbig]
      by_cases h1 : k < 1
      · simp (maxSteps := 1000000) (disch := omega) only [WS, ↓reduceIte, Nat.reduceEqDiff, reduceCtorEq, AS, decide_eq_false d0]
      by_cases h2 : m < 1
      · simp (maxSteps := 1000000) (disch := omega) only [WS, ↓reduceIte, Nat.reduceEqDiff, reduceCtorEq, AS, decide_eq_false d0]
      by_cases h3 : 65536 < k
      · simp (maxSteps := 1000000) (disch := omega) only [WS, ↓reduceIte, Nat.reduceEqDiff, reduceCtorEq, AS, decide_eq_false d0]
      by_cases h4 : 65536 < m
      · simp (maxSteps := 1000000) (disch := omega) only [WS, ↓reduceIte, Nat.reduceEqDiff, reduceCtorEq, AS, decide_eq_false d0]
      exfalso
      omega
    rw [if_neg hbig]
    have hkw : IntKind.i64.wrap (k + m) = k + m := wrap_id (by omega) (by omega)
    have h1 : ¬ k < 1 := by omega
    have h2 : ¬ m < 1 := by omega
    have h3 : ¬ 65536 < k := by omega
    have h4 : ¬ 65536 < m := by omega
    by_cases h6 : 256 < k + m
    · rw [if_pos h6]
      simp (maxSteps := 1000000) (disch := omega) only [WS, ↓reduceIte, Nat.reduceEqDiff, reduceCtorEq, AS, decide_eq_false d0, hkw, decide_eq_true f2]
    · rw [if_neg h6]
      simp (maxSteps := 1000000) (disch := omega) only [WS, ↓reduceIte, Nat.reduceEqDiff, reduceCtorEq, AS, decide_eq_false d0, hkw, decide_eq_true f2]
  · have d0 : f ≠ 0 := hf0
    have d1 : ¬ f ≠ 1 := fun e => e (hf.resolve_left hf0)
    by_cases hbig : k < 1 ∨ m < 1 ∨ 65536 < k ∨ 65536 < m
    · rw [if_pos hbig]
      by_cases h1 : k < 1
      · simp (maxSteps := 1000000) (disch := omega) only [WS, ↓reduceIte, Nat.reduceEqDiff, reduceCtorEq, AS, decide_eq_true d0, decide_eq_false d1]
      by_cases h2 : m < 1
      · simp (maxSteps := 1000000) (disch := omega) only [WS, ↓reduceIte, Nat.reduceEqDiff, reduceCtorEq, AS, decide_eq_true d0, decide_eq_false d1]
      by_cases h3 : 65536 < k
      · simp (maxSteps := 1000000) (disch := omega) only [WS, ↓reduceIte, Nat.reduceEqDiff, reduceCtorEq, AS, decide_eq_true d0, decide_eq_false d1]
      by_cases h4 : 65536 < m
      · simp (maxSteps := 1000000) (disch := omega) only [WS, ↓reduceIte, Nat.reduceEqDiff, reduceCtorEq, AS, decide_eq_true d0, decide_eq_false d1]
      exfalso
      omega
    rw [if_neg hbig]
    have hkw : IntKind.i64.wrap (k + m) = k + m := wrap_id (by omega) (by omega)
    have h1 : ¬ k < 1 := by omega
    have h2 : ¬ m < 1 := by omega
    have h3 : ¬ 65536 < k := by omega
    have h4 : ¬ 65536 < m := by omega
    by_cases h6 : 256 < k + m
    · rw [if_pos h6]
      simp (maxSteps := 1000000) (disch := omega) only [WS, ↓reduceIte, Nat.reduceEqDiff, reduceCtorEq, AS, decide_eq_true d0, decide_eq_false d1, hkw, decide_eq_true f2]
    · rw [if_neg h6]
      simp (maxSteps := 1000000) (disch := omega) only [WS, ↓reduceIte, Nat.reduceEqDiff, reduceCtorEq, AS, decide_eq_true d0, decide_eq_false d1, hkw, decide_eq_true f2]
theorem culletref16_empties_spec (w : World) (s : Value) (hs : List Hd) (h : Sl w s hs) (hn : hs.length ≤ 1048576) : CallV Try.prog 97 [s] w fun v w' => RowKit.Below w.heap.size w w' ∧ Ow w.heap.size w' v (zis (hln hs) hs.length) := by
  refine run_culletref16_empties (by simp) ?_
  simp only [c_culletref16_empties, WS, ↓reduceIte, Nat.reduceEqDiff, reduceCtorEq]
  refine loop_of (fun t w' => t 0 = s ∧ RowKit.Below w.heap.size w w' ∧ ∃ (i : Nat) (sr : Value), t 4 = .int .i64 (i : Int) ∧ i ≤ hs.length ∧ t 3 = sr ∧ Ow w.heap.size w' sr (zis (hln hs) i)) (fun t _ => hs.length - (toI (t 4)).toNat) ⟨by simp only [WS, ↓reduceIte, Nat.reduceEqDiff, reduceCtorEq], RowKit.Below.refl _ _, 0, _, by simp only [WS, ↓reduceIte, Nat.reduceEqDiff, reduceCtorEq]; rfl, by omega, by simp only [WS, ↓reduceIte, Nat.reduceEqDiff, reduceCtorEq], Ow.nil _ _⟩ ?_
  rintro t w2 ⟨t0, B, i, sr, t4, hi, t3, or⟩
  have hw := h.up B
  by_cases hil : i < hs.length
  · have zi := zis_succ (hln hs) i
    have zl := zis_le (hln hs) i
    have hx := hln_get hs hil
    by_cases h0 : hln hs i = 0
    · rw [if_pos h0] at zi
      have h0' : hs[i].n = 0 := by rw [← hx]; exact h0
      simp (maxSteps := 1000000) (disch := omega) only [WS, ↓reduceIte, Nat.reduceEqDiff, reduceCtorEq, AS, t0, t4, t3, hw.Xlen, hw.Xix hil, hw.Xld hil, cell_hd, X_lenS, h0', show decide (((0 : Nat) : Int) = 0) = true from rfl]
      refine X_bsl (zs := [(i : Int)]) (by rfl) (by rfl) fun e1 w3 oe hB => ?_
      have B := B.trans (hB.mono B.size)
      have or := or.up hB
      clear hB
      simp (maxSteps := 1000000) (disch := omega) only [WS, ↓reduceIte, Nat.reduceEqDiff, reduceCtorEq, AS, t0, t4, t3]
      refine Ow.Xapp or oe.sl B.size (by simp only [List.length_singleton, maxBytes]; omega) (by simp only [List.length_singleton]; omega) fun e2 w4 or2 hg _ => ?_
      have B := Below.app B B.size hg fun b hb => (or.blk b hb).1
      simp (maxSteps := 1000000) (disch := omega) only [WS, ↓reduceIte, Nat.reduceEqDiff, reduceCtorEq, AS, t0, t4]
      exact ⟨⟨B, i + 1, e2, rfl, by omega, rfl, by rw [zi]; exact or2⟩, by omega⟩
    · rw [if_neg h0] at zi
      have h0' : hs[i].n ≠ 0 := by rw [← hx]; exact h0
      have h0'' : ¬ ((hs[i].n : Nat) : Int) = 0 := by omega
      simp (maxSteps := 1000000) (disch := omega) only [WS, ↓reduceIte, Nat.reduceEqDiff, reduceCtorEq, AS, t0, t4, t3, hw.Xlen, hw.Xix hil, hw.Xld hil, cell_hd, X_lenS, decide_eq_false h0'']
      exact ⟨⟨B, i + 1, sr, rfl, by omega, rfl, by rw [zi]; exact or⟩, by omega⟩
  obtain rfl : i = hs.length := by omega
  simp (maxSteps := 1000000) (disch := omega) only [WS, ↓reduceIte, Nat.reduceEqDiff, reduceCtorEq, AS, t0, t4, t3, hw.Xlen]
  exact ⟨B, or⟩
theorem culletref16_longest_spec (w : World) (s : Value) (hs : List Hd) (h : Sl w s hs) (hn : hs.length ≤ 1048576) : CallV Try.prog 99 [s] w fun v w' => w' = w ∧ ∃ len : Nat, v = .int .i64 (len : Int) ∧ (∀ j, j < hs.length → hln hs j ≤ len) ∧ (len ≠ 0 → ∃ j, j < hs.length ∧ hln hs j = len) := by
  refine run_culletref16_longest (by simp) ?_
  simp only [c_culletref16_longest, WS, ↓reduceIte, Nat.reduceEqDiff, reduceCtorEq]
  refine loop_of (fun t w' => t 0 = s ∧ w' = w ∧ ∃ (i len : Nat), t 4 = .int .i64 (i : Int) ∧ i ≤ hs.length ∧ t 3 = .int .i64 (len : Int) ∧ (∀ j, j < i → hln hs j ≤ len) ∧ (len ≠ 0 → ∃ j, j < i ∧ hln hs j = len)) (fun t _ => hs.length - (toI (t 4)).toNat) ⟨by simp only [WS, ↓reduceIte, Nat.reduceEqDiff, reduceCtorEq], rfl, 0, 0, by simp only [WS, ↓reduceIte, Nat.reduceEqDiff, reduceCtorEq]; rfl, by omega, by simp only [WS, ↓reduceIte, Nat.reduceEqDiff, reduceCtorEq]; rfl, fun j hj => absurd hj (Nat.not_lt_zero _), fun e => absurd rfl e⟩ ?_
  rintro t w2 ⟨t0, rfl, i, len, t4, hi, t3, h1, h2⟩
  by_cases hil : i < hs.length
  · have hx := hln_get hs hil
    by_cases hgt : (hs[i].n : Int) > (len : Int)
    · simp (maxSteps := 1000000) (disch := omega) only [WS, ↓reduceIte, Nat.reduceEqDiff, reduceCtorEq, AS, t0, t4, t3, h.Xlen, h.Xix hil, h.Xld hil, cell_hd, X_lenS, decide_eq_true hgt]
      refine ⟨⟨i + 1, hs[i].n, rfl, by omega, rfl, fun j hj => ?_, fun _ => ⟨i, by omega, hx⟩⟩, by omega⟩
      by_cases e : j = i
      · rw [e, hx]; omega
      · have := h1 j (by omega); omega
    · simp (maxSteps := 1000000) (disch := omega) only [WS, ↓reduceIte, Nat.reduceEqDiff, reduceCtorEq, AS, t0, t4, t3, h.Xlen, h.Xix hil, h.Xld hil, cell_hd, X_lenS, decide_eq_false hgt]
      refine ⟨⟨i + 1, len, rfl, by omega, rfl, fun j hj => ?_, fun h0 => ?_⟩, by omega⟩
      · by_cases e : j = i
        · rw [e, hx]; omega
        · exact h1 j (by omega)
      · obtain ⟨j, hj, e⟩ := h2 h0
        exact ⟨j, by omega, e⟩
  obtain rfl : i = hs.length := by omega
  simp (maxSteps := 1000000) (disch := omega) only [WS, ↓reduceIte, Nat.reduceEqDiff, reduceCtorEq, AS, t0, t4, t3, h.Xlen]
  exact ⟨len, rfl, h1, h2⟩
theorem culletref16_unlike_spec (w : World) (s : Value) (hs : List Hd) (h : Sl w s hs) (hn : hs.length ≤ 1048576) : CallV Try.prog 98 [s, .bool true] w fun v w' => w' = w ∧ ∃ u : Bool, v = .bool u ∧ (u = false → ∃ c, ∀ j, j < hs.length → hln hs j = 0 ∨ hln hs j = c) ∧ (u = true → ∃ i j, i < hs.length ∧ j < hs.length ∧ hln hs i ≠ 0 ∧ hln hs j ≠ 0 ∧ hln hs i ≠ hln hs j) := by
  refine run_culletref16_unlike (by simp) ?_
  simp only [c_culletref16_unlike, WS, ↓reduceIte, Nat.reduceEqDiff, reduceCtorEq]
  refine loop_of (fun t w' => t 0 = s ∧ t 1 = .bool true ∧ w' = w ∧ ∃ (i : Nat) (c : Int), t 6 = .int .i64 (i : Int) ∧ i ≤ hs.length ∧ t 5 = .int .i64 c ∧ ((c = -1 ∧ ∀ j, j < i → hln hs j = 0) ∨ (∃ j0, j0 < i ∧ hln hs j0 ≠ 0 ∧ c = (hln hs j0 : Nat) ∧ ∀ j, j < i → hln hs j = 0 ∨ hln hs j = hln hs j0))) (fun t _ => hs.length - (toI (t 6)).toNat) ⟨by simp only [WS, ↓reduceIte, Nat.reduceEqDiff, reduceCtorEq], by simp only [WS, ↓reduceIte, Nat.reduceEqDiff, reduceCtorEq], rfl, 0, -1, by simp only [WS, ↓reduceIte, Nat.reduceEqDiff, reduceCtorEq]; rfl, by omega, by simp only [WS, ↓reduceIte, Nat.reduceEqDiff, reduceCtorEq], Or.inl ⟨rfl, fun j hj => absurd hj (Nat.not_lt_zero _)⟩⟩ ?_
  rintro t w2 ⟨t0, t1, rfl, i, c, t6, hi, t5, hc⟩
  by_cases hil : i < hs.length
  · have hx := hln_get hs hil
    by_cases h0 : hs[i].n = 0
    · simp (maxSteps := 1000000) (disch := omega) only [WS, ↓reduceIte, Nat.reduceEqDiff, reduceCtorEq, AS, t0, t1, t6, t5, h.Xlen, h.Xix hil, h.Xld hil, cell_hd, X_lenS, h0, show decide (((0 : Nat) : Int) = 0) = true from rfl]
      refine ⟨⟨i + 1, c, rfl, by omega, rfl, ?_⟩, by omega⟩
      rcases hc with ⟨a, b⟩ | ⟨j0, a1, a2, a3, a4⟩
      · exact Or.inl ⟨a, fun j hj => by
          by_cases e : j = i
          · rw [e, hx]; exact h0
          · exact b j (by omega)⟩
      · exact Or.inr ⟨j0, by omega, a2, a3, fun j hj => by
          by_cases e : j = i
          · rw [e, hx]; exact Or.inl h0
          · exact a4 j (by omega)⟩
    have h0'' : ¬ ((hs[i].n : Nat) : Int) = 0 := by omega
    rcases hc with ⟨a, b⟩ | ⟨j0, a1, a2, a3, a4⟩
    · have c0 : ¬ c ≥ 0 := by omega
      simp (maxSteps := 1000000) (disch := omega) only [WS, ↓reduceIte, Nat.reduceEqDiff, reduceCtorEq, AS, t0, t1, t6, t5, h.Xlen, h.Xix hil, h.Xld hil, cell_hd, X_lenS, decide_eq_false h0'', decide_eq_false c0]
      refine ⟨⟨i + 1, _, rfl, by omega, rfl, Or.inr ⟨i, by omega, by omega, by rw [hx], fun j hj => ?_⟩⟩, by omega⟩
      by_cases e : j = i
      · right; rw [e]
      · left; exact b j (by omega)
    · have c0 : c ≥ 0 := by omega
      by_cases hne : ((hs[i].n : Nat) : Int) = c
      · have hne' : ¬ ((hs[i].n : Nat) : Int) ≠ c := fun e => e hne
        simp (maxSteps := 1000000) (disch := omega) only [WS, ↓reduceIte, Nat.reduceEqDiff, reduceCtorEq, AS, t0, t1, t6, t5, h.Xlen, h.Xix hil, h.Xld hil, cell_hd, X_lenS, decide_eq_false h0'', decide_eq_true c0, decide_eq_false hne']
        refine ⟨⟨i + 1, _, rfl, by omega, rfl, Or.inr ⟨j0, by omega, a2, by omega, fun j hj => ?_⟩⟩, by omega⟩
        by_cases e : j = i
        · right; rw [e, hx]; omega
        · exact a4 j (by omega)
      · simp (maxSteps := 1000000) (disch := omega) only [WS, ↓reduceIte, Nat.reduceEqDiff, reduceCtorEq, AS, t0, t1, t6, t5, h.Xlen, h.Xix hil, h.Xld hil, cell_hd, X_lenS, decide_eq_false h0'', decide_eq_true c0, decide_eq_true (show ((hs[i].n : Nat) : Int) ≠ c from hne)]
        exact ⟨true, rfl, by simp, fun _ => ⟨i, j0, hil, by omega, by omega, a2, by omega⟩⟩
  obtain rfl : i = hs.length := by omega
  simp (maxSteps := 1000000) (disch := omega) only [WS, ↓reduceIte, Nat.reduceEqDiff, reduceCtorEq, AS, t0, t1, t6, t5, h.Xlen]
  refine ⟨false, rfl, fun _ => ?_, by simp⟩
  rcases hc with ⟨a, b⟩ | ⟨j0, a1, a2, a3, a4⟩
  · exact ⟨0, fun j hj => Or.inl (b j hj)⟩
  · exact ⟨_, a4⟩
theorem lns_of {L : Nat → Nat} {n len : Nat} {u : Bool} (h1 : ∀ j, j < n → L j ≤ len) (h2 : len ≠ 0 → ∃ j, j < n ∧ L j = len) (hu : u = false → ∃ c, ∀ j, j < n → L j = 0 ∨ L j = c) (hu2 : u = true → ∃ i j, i < n ∧ j < n ∧ L i ≠ 0 ∧ L j ≠ 0 ∧ L i ≠ L j) : Lns L n len (!u) := by
  refine ⟨⟨fun e j hj => by have := h1 j hj; omega, fun e => ?_⟩, ⟨fun e j hj => ?_, fun e => ?_⟩, h2⟩
  · by_cases h0 : len = 0
    · exact h0
    · obtain ⟨j, hj, e2⟩ := h2 h0
      rw [← e2, e j hj]
  · obtain ⟨c, hc⟩ := hu (by cases u; rfl; cases e)
    by_cases h0 : len = 0
    · have := h1 j hj; omega
    · obtain ⟨i, hi, e2⟩ := h2 h0
      have a1 := hc i hi
      have a2 := hc j hj
      omega
  · cases u
    · rfl
    · obtain ⟨i, j, hi, hj, a1, a2, a3⟩ := hu2 rfl
      have b1 := e i hi
      have b2 := e j hj
      omega
theorem mx_ex (L : Nat → Nat) : ∀ n, ∃ len, (∀ j, j < n → L j ≤ len) ∧ (len ≠ 0 → ∃ j, j < n ∧ L j = len)
  | 0 => ⟨0, fun j hj => absurd hj (Nat.not_lt_zero _), fun e => absurd rfl e⟩
  | n + 1 => by
    obtain ⟨len, h1, h2⟩ := mx_ex L n
    by_cases h : L n ≤ len
    · refine ⟨len, fun j hj => ?_, fun e => ?_⟩
      · by_cases e : j = n
        · rw [e]; exact h
        · exact h1 j (by omega)
      · obtain ⟨j, hj, e2⟩ := h2 e
        exact ⟨j, by omega, e2⟩
    · refine ⟨L n, fun j hj => ?_, fun _ => ⟨n, by omega, rfl⟩⟩
      by_cases e : j = n
      · rw [e]; exact Nat.le_refl _
      · have := h1 j (by omega); omega
theorem culletref16_Partial_spec (w : World) (f k m : Int) (s : Value) (hs : List Hd) (h : Sl w s hs) (hf : f = 0 ∨ f = 1) :
    CallV Try.prog 62 [.int .i64 f, .int .i64 k, .int .i64 m, s] w fun v w' => RowKit.Below w.heap.size w w' ∧ ∃ (len : Nat) (ev : Bool), (cnt f k m hs.length = 0 → Lns (hln hs) hs.length len ev) ∧
      ((wer f k m (hln hs) hs.length len ev ≠ 0 ∧ v = .tuple #[.int .i64 0, .slice none 0 0, .int .i64 (wer f k m (hln hs) hs.length len ev)]) ∨
       (wer f k m (hln hs) hs.length len ev = 0 ∧ MOk f k m (hln hs) hs.length len ∧ ∃ sz, v = .tuple #[.int .i64 (len : Int), sz, .int .i64 0] ∧ Ow w.heap.size w' sz (zis (hln hs) hs.length))) := by
  refine run_culletref16_Partial (by simp) ?_
  simp only [c_culletref16_Partial, WS, ↓reduceIte, Nat.reduceEqDiff, reduceCtorEq]
  refine X_call0 ((culletref16_Params_spec w f k m hf).mono ?_)
  rintro _ w1 ⟨rfl, rfl⟩
  have ew : ∀ len ev, wer f k m (hln hs) hs.length len ev = (prt f k m hs.length (zis (hln hs) hs.length).length len ev).2 := fun len ev => if_pos hf
  by_cases hp : prm f k m = 0
  rotate_left
  · have hc : cnt f k m hs.length = prm f k m := by unfold cnt; rw [if_pos hp]
    have e1 : wer f k m (hln hs) hs.length 0 true = prm f k m := by
      rw [ew]; unfold prt; rw [hc, if_pos hp]
    simp (maxSteps := 1000000) (disch := omega) only [WS, ↓reduceIte, Nat.reduceEqDiff, reduceCtorEq, AS, decide_eq_true (show prm f k m ≠ 0 from hp)]
    exact ⟨RowKit.Below.refl _ _, 0, true, fun e => absurd (hc ▸ e) hp, Or.inl ⟨by rw [e1]; exact hp, by rw [e1]⟩⟩
  obtain ⟨a1, a2, a3, a4⟩ := prm_ok hp
  have hkw : IntKind.i64.wrap (k + m) = k + m := wrap_id (by omega) (by omega)
  by_cases hn : (hs.length : Int) = k + m
  rotate_left
  · have hc : cnt f k m hs.length = 160 := by unfold cnt; rw [if_neg (fun e => e hp), if_pos hn]
    have e1 : wer f k m (hln hs) hs.length 0 true = 160 := by
      rw [ew]; unfold prt; rw [hc, if_pos (by decide)]
    simp (maxSteps := 1000000) (disch := omega) only [WS, ↓reduceIte, Nat.reduceEqDiff, reduceCtorEq, AS, decide_eq_false (show ¬ prm f k m ≠ 0 from fun e => e hp), h.Xlen, hkw, decide_eq_true (show (hs.length : Int) ≠ k + m from hn)]
    exact ⟨RowKit.Below.refl _ _, 0, true, fun e => absurd (hc.symm.trans e) (by decide), Or.inl ⟨by rw [e1]; decide, by rw [e1]⟩⟩
  have hc : cnt f k m hs.length = 0 := by unfold cnt; rw [if_neg (fun e => e hp), if_neg (fun e => e hn)]
  simp (maxSteps := 1000000) (disch := omega) only [WS, ↓reduceIte, Nat.reduceEqDiff, reduceCtorEq, AS, decide_eq_false (show ¬ prm f k m ≠ 0 from fun e => e hp), h.Xlen, hkw, decide_eq_false (show ¬ (hs.length : Int) ≠ k + m from fun e => e hn)]
  refine X_call0 ((culletref16_empties_spec w1 s hs h (by omega)).mono ?_)
  rintro sz w2 ⟨B, oz⟩
  have h2 := h.up B
  have zle := zis_le (hln hs) hs.length
  have hzall : (zis (hln hs) hs.length).length = hs.length ↔ ∀ j, j < hs.length → hln hs j = 0 := by
    have := prsL_len (hln hs) hs.length
    constructor
    · intro e j hj
      have e0 : prsL (hln hs) hs.length = [] := List.eq_nil_of_length_eq_zero (by omega)
      by_cases h0 : hln hs j = 0
      · exact h0
      · have : j ∈ prsL (hln hs) hs.length := prsL_mem.2 ⟨hj, h0⟩
        rw [e0] at this
        cases this
    · intro e
      have e0 : prsL (hln hs) hs.length = [] := List.eq_nil_iff_forall_not_mem.2 fun j hj => by
        obtain ⟨b1, b2⟩ := prsL_mem.1 hj
        exact b2 (e j b1)
      rw [e0] at this
      simpa using this
  by_cases hz : (zis (hln hs) hs.length).length = hs.length
  · have hz' : ((zis (hln hs) hs.length).length : Int) = k + m := by omega
    have hL : Lns (hln hs) hs.length 0 true := ⟨⟨fun _ => hzall.1 hz, fun _ => rfl⟩, ⟨fun _ j hj => Or.inl (hzall.1 hz j hj), fun _ => rfl⟩, fun e => absurd rfl e⟩
    have e1 : wer f k m (hln hs) hs.length 0 true = 161 := by
      rw [ew]; unfold prt; rw [if_neg (fun e => e hc), if_pos rfl]
    simp (maxSteps := 1000000) (disch := omega) only [WS, ↓reduceIte, Nat.reduceEqDiff, reduceCtorEq, AS, oz.sl.Xlen, hkw, decide_eq_true hz']
    exact ⟨B, 0, true, fun _ => hL, Or.inl ⟨by rw [e1]; decide, by rw [e1]⟩⟩
  have hz' : ¬ ((zis (hln hs) hs.length).length : Int) = k + m := by omega
  simp (maxSteps := 1000000) (disch := omega) only [WS, ↓reduceIte, Nat.reduceEqDiff, reduceCtorEq, AS, oz.sl.Xlen, hkw, decide_eq_false hz']
  refine X_call0 ((culletref16_unlike_spec w2 s hs h2 (by omega)).mono ?_)
  rintro _ w3 ⟨rfl, u, rfl, hu, hu2⟩
  cases u
  rotate_left
  · simp (maxSteps := 1000000) (disch := omega) only [WS, ↓reduceIte, Nat.reduceEqDiff, reduceCtorEq, AS]
    obtain ⟨len, g1, g2⟩ := mx_ex (hln hs) hs.length
    have hL := lns_of g1 g2 hu hu2
    have hlen : len ≠ 0 := fun e => hz (hzall.2 (hL.z.1 e))
    have e1 : wer f k m (hln hs) hs.length len false = 162 := by
      rw [ew]; unfold prt; rw [if_neg (fun e => e hc), if_neg hlen, if_pos rfl]
    exact ⟨B, len, false, fun _ => hL, Or.inl ⟨by rw [e1]; decide, by rw [e1]⟩⟩
  simp (maxSteps := 1000000) (disch := omega) only [WS, ↓reduceIte, Nat.reduceEqDiff, reduceCtorEq, AS]
  refine X_call0 ((culletref16_longest_spec w3 s hs h2 (by omega)).mono ?_)
  rintro _ w4 ⟨rfl, len, rfl, g1, g2⟩
  have hL := lns_of g1 g2 hu hu2
  have f2 : ¬ f = 2 := by omega
  have hlen : len ≠ 0 := fun e => hz (hzall.2 (hL.z.1 e))
  have ekz : IntKind.i64.wrap (k + m - ((zis (hln hs) hs.length).length : Int)) = k + m - ((zis (hln hs) hs.length).length : Int) := wrap_id (by omega) (by omega)
  by_cases h9 : m < ((zis (hln hs) hs.length).length : Int)
  · have e1 : wer f k m (hln hs) hs.length len true = 9 := by
      rw [ew]; unfold prt oddB; rw [if_neg (fun e => e hc), if_neg hlen, if_neg (by decide), decide_eq_false (fun e => f2 e.1), if_neg (by decide), if_pos h9]
    simp (maxSteps := 1000000) (disch := omega) only [WS, ↓reduceIte, Nat.reduceEqDiff, reduceCtorEq, AS, decide_eq_false f2, hkw, oz.sl.Xlen, ekz]
    exact ⟨B, len, true, fun _ => hL, Or.inl ⟨by rw [e1]; decide, by rw [e1]⟩⟩
  · have e1 : wer f k m (hln hs) hs.length len true = 0 := by
      rw [ew]; unfold prt oddB; rw [if_neg (fun e => e hc), if_neg hlen, if_neg (by decide), decide_eq_false (fun e => f2 e.1), if_neg (by decide), if_neg h9]
    simp (maxSteps := 1000000) (disch := omega) only [WS, ↓reduceIte, Nat.reduceEqDiff, reduceCtorEq, AS, decide_eq_false f2, hkw, oz.sl.Xlen, ekz]
    exact ⟨B, len, true, fun _ => hL, Or.inr ⟨e1, (prt_ok hf (fun _ => hL) (by rw [← ew]; exact e1)).1, sz, rfl, oz⟩⟩
end Go.Proofs.Ytbaljbadlfopgaa.Fw
