import Derived.Test.YtbaljbadlfopgaaProg
import Derived.Test.YtbaljbadlfopgaaFwTW
import Derived.Test.YtbaljbadlfopgaaSMgdW
import Derived.Test.YtbaljbadlfopgaaFwYW
set_option linter.all false
set_option linter.unusedVariables false
set_option linter.unusedSimpArgs false
set_option maxRecDepth 100000
set_option maxHeartbeats 1000000
namespace Go.Proofs.Ytbaljbadlfopgaa.Fw
open Go Go.Fw Go.Proofs
attribute [local irreducible] stepI
def c_shape_counted : C := .seq (.ops [⟨0,some 8,none,.mov (.c (.int .i64 0)),[]⟩]) (.seq (.seq (.ops [⟨0,some 10,none,.mov (.t 0),[]⟩,⟨1,some 11,none,.mov (.t 1),[]⟩,⟨2,some 12,none,.mov (.t 2),[]⟩,⟨3,some 13,none,.call (.c (.func (.func 155) #[] #[])) [.t 10,.t 11,.t 12],[]⟩,⟨4,some 9,none,.mov (.t 13),[]⟩]) (.seq (.ops [⟨0,some 14,none,.mov (.t 9),[]⟩,⟨1,some 15,none,.bin .neq (.t 14) (.c (.int .i64 0)),[]⟩]) (.ite (.t 15) (.seq (.ops [⟨0,some 16,none,.mov (.t 9),[]⟩,⟨1,some 8,none,.mov (.t 16),[]⟩]) .ret) .skip))) (.seq (.seq (.ops [⟨0,some 17,none,.mov (.t 3),[]⟩,⟨1,some 18,none,.len (.t 17),[]⟩,⟨2,some 19,none,.mov (.t 1),[]⟩,⟨3,some 20,none,.mov (.t 2),[]⟩,⟨4,some 21,none,.bin .add (.t 19) (.t 20),[]⟩,⟨5,some 22,none,.bin .neq (.t 18) (.t 21),[]⟩]) (.ite (.t 22) (.seq (.ops [⟨0,some 8,none,.mov (.c (.int .i64 160)),[]⟩]) .ret) .skip)) (.seq (.ops [⟨0,some 8,none,.mov (.c (.int .i64 0)),[]⟩]) .ret)))
attribute [irreducible] c_shape_counted
theorem run_shape_counted {args : List Value} {w : World} {K : Value → World → Prop} (hn : args.length ≤ 23) (h : WP Try.prog c_shape_counted (endQ [.t 8] K) (initT args) w) : CallV Try.prog 131 args w K :=
  call_of follows Try.func131 (by kernel_rfl) (by kernel_rfl) hn h
def c_shape_lengths : C := .seq (.ops [⟨0,some 2,none,.mov (.c (.int .i64 0)),[]⟩,⟨1,some 3,none,.mov (.c (.slice none 0 0)),[]⟩,⟨2,some 4,none,.mov (.c (.bool false)),[]⟩]) (.seq (.ops [⟨0,some 4,none,.mov (.c (.bool true)),[]⟩]) (.seq (.seq (.ops [⟨0,some 7,none,.mov (.t 0),[]⟩,⟨1,some 8,none,.len (.t 7),[]⟩,⟨2,some 9,none,.mov (.c (.int .i64 0)),[]⟩]) (.block 0 (.loop (.seq (.ops [⟨0,some 10,none,.bin .lss (.t 9) (.t 8),[]⟩]) (.seq (.ite (.t 10) .skip (.exit 0)) (.seq (.block 1 (.seq (.ops [⟨0,some 11,none,.mov (.t 9),[]⟩,⟨1,some 12,none,.ixs 1 (.t 7) (.t 9),[]⟩,⟨2,some 13,none,.ld (.t 12),[]⟩,⟨3,some 5,none,.mov (.t 11),[]⟩,⟨4,some 6,none,.mov (.t 13),[]⟩]) (.block 2 (.seq (.ops [⟨0,some 15,none,.mov (.t 6),[]⟩,⟨1,some 16,none,.len (.t 15),[]⟩,⟨2,some 17,none,.bin .eql (.t 16) (.c (.int .i64 0)),[]⟩,⟨3,some 14,none,.mov (.t 17),[]⟩]) (.ite (.t 14) (.ops [⟨0,some 18,none,.mov (.t 3),[]⟩,⟨1,some 19,none,.mov (.t 5),[]⟩,⟨2,some 20,none,.bsl 3 1 [.int .i64 0] [(0,(1,.t 19))],[]⟩,⟨3,some 21,none,.app 3 8 [.int .i64 0] (.t 18) (.t 20),[]⟩,⟨4,some 3,none,.mov (.t 21),[]⟩]) (.seq (.ops [⟨0,some 23,none,.mov (.t 2),[]⟩,⟨1,some 24,none,.bin .eql (.t 23) (.c (.int .i64 0)),[]⟩,⟨2,some 22,none,.mov (.t 24),[]⟩]) (.ite (.t 22) (.ops [⟨0,some 25,none,.mov (.t 6),[]⟩,⟨1,some 26,none,.len (.t 25),[]⟩,⟨2,some 2,none,.mov (.t 26),[]⟩]) (.seq (.ops [⟨0,some 28,none,.mov (.t 2),[]⟩,⟨1,some 29,none,.mov (.t 6),[]⟩,⟨2,some 30,none,.len (.t 29),[]⟩,⟨3,some 31,none,.bin .neq (.t 28) (.t 30),[]⟩,⟨4,some 27,none,.mov (.t 31),[]⟩]) (.ite (.t 27) (.ops [⟨0,some 4,none,.mov (.c (.bool false)),[]⟩]) .skip))))))))) (.ops [⟨0,some 32,none,.bin .add (.t 9) (.c (.int .i64 1)),[]⟩,⟨1,some 9,none,.mov (.t 32),[]⟩]))))))) (.seq (.ops [⟨0,some 33,none,.mov (.t 2),[]⟩,⟨1,some 34,none,.mov (.t 3),[]⟩,⟨2,some 35,none,.mov (.t 4),[]⟩,⟨3,some 2,none,.mov (.t 33),[]⟩,⟨4,some 3,none,.mov (.t 34),[]⟩,⟨5,some 4,none,.mov (.t 35),[]⟩]) .ret)))
attribute [irreducible] c_shape_lengths
theorem run_shape_lengths {args : List Value} {w : World} {K : Value → World → Prop} (hn : args.length ≤ 36) (h : WP Try.prog c_shape_lengths (endQ [.t 2, .t 3, .t 4] K) (initT args) w) : CallV Try.prog 132 args w K :=
  call_of follows Try.func132 (by kernel_rfl) (by kernel_rfl) hn h
def c_shape_Params : C := .seq (.ops [⟨0,some 6,none,.mov (.c (.int .i64 0)),[]⟩]) (.seq (.block 0 (.seq (.ops [⟨0,some 8,none,.mov (.t 0),[]⟩,⟨1,some 9,none,.call (.c (.func (.func 160) #[] #[])) [.t 8],[]⟩,⟨2,some 10,none,.un .not (.t 9),[]⟩,⟨3,some 7,none,.mov (.t 10),[]⟩]) (.ite (.t 7) (.seq (.ops [⟨0,some 6,none,.mov (.c (.int .i64 2)),[]⟩]) .ret) (.seq (.ops [⟨0,some 12,none,.mov (.t 1),[]⟩,⟨1,some 13,none,.bin .lss (.t 12) (.c (.int .i64 1)),[]⟩,⟨2,some 14,none,.mov (.t 13),[]⟩,⟨3,some 15,(some (14,false)),.mov (.t 2),[]⟩,⟨4,some 16,(some (14,false)),.bin .lss (.t 15) (.c (.int .i64 1)),[]⟩,⟨5,some 17,none,.pick (.t 14) (.c (.bool true)) (.t 16),[]⟩,⟨6,some 18,none,.mov (.t 17),[]⟩,⟨7,some 19,(some (18,false)),.mov (.t 1),[]⟩,⟨8,some 20,(some (18,false)),.bin .gtr (.t 19) (.c (.int .i64 65536)),[]⟩,⟨9,some 21,none,.pick (.t 18) (.c (.bool true)) (.t 20),[]⟩,⟨10,some 22,none,.mov (.t 21),[]⟩,⟨11,some 23,(some (22,false)),.mov (.t 2),[]⟩,⟨12,some 24,(some (22,false)),.bin .gtr (.t 23) (.c (.int .i64 65536)),[]⟩,⟨13,some 25,none,.pick (.t 22) (.c (.bool true)) (.t 24),[]⟩,⟨14,some 11,none,.mov (.t 25),[]⟩]) (.ite (.t 11) (.seq (.ops [⟨0,some 6,none,.mov (.c (.int .i64 4)),[]⟩]) .ret) (.seq (.ops [⟨0,some 27,none,.mov (.t 0),[]⟩,⟨1,some 28,none,.bin .neq (.t 27) (.c (.int .i64 2)),[]⟩,⟨2,some 29,none,.mov (.t 28),[]⟩,⟨3,some 30,(some (29,true)),.mov (.t 1),[]⟩,⟨4,some 31,(some (29,true)),.mov (.t 2),[]⟩,⟨5,some 32,(some (29,true)),.bin .add (.t 30) (.t 31),[]⟩,⟨6,some 33,(some (29,true)),.bin .gtr (.t 32) (.c (.int .i64 256)),[]⟩,⟨7,some 34,none,.pick (.t 29) (.t 33) (.c (.bool false)),[]⟩,⟨8,some 26,none,.mov (.t 34),[]⟩]) (.ite (.t 26) (.seq (.ops [⟨0,some 6,none,.mov (.c (.int .i64 4)),[]⟩]) .ret) (.seq (.ops [⟨0,some 36,none,.mov (.t 0),[]⟩,⟨1,some 37,none,.bin .eql (.t 36) (.c (.int .i64 2)),[]⟩,⟨2,some 38,none,.mov (.t 37),[]⟩,⟨3,some 39,(some (38,true)),.mov (.t 1),[]⟩,⟨4,some 40,(some (38,true)),.mov (.t 2),[]⟩,⟨5,some 41,(some (38,true)),.call (.c (.func (.func 161) #[] #[])) [.t 40],[]⟩,⟨6,some 42,(some (38,true)),.bin .add (.t 39) (.t 41),[]⟩,⟨7,some 43,(some (38,true)),.bin .gtr (.t 42) (.c (.int .i64 65536)),[]⟩,⟨8,some 44,none,.pick (.t 38) (.t 43) (.c (.bool false)),[]⟩,⟨9,some 35,none,.mov (.t 44),[]⟩]) (.ite (.t 35) (.seq (.ops [⟨0,some 6,none,.mov (.c (.int .i64 4)),[]⟩]) .ret) .skip))))))))) (.seq (.ops [⟨0,some 6,none,.mov (.c (.int .i64 0)),[]⟩]) .ret))
attribute [irreducible] c_shape_Params
theorem run_shape_Params {args : List Value} {w : World} {K : Value → World → Prop} (hn : args.length ≤ 45) (h : WP Try.prog c_shape_Params (endQ [.t 6] K) (initT args) w) : CallV Try.prog 155 args w K :=
  call_of follows Try.func155 (by kernel_rfl) (by kernel_rfl) hn h
def c_shape_family : C := .seq (.ops [⟨0,some 2,none,.mov (.c (.bool false)),[]⟩]) (.seq (.ops [⟨0,some 3,none,.mov (.t 0),[]⟩,⟨1,some 4,none,.bin .geq (.t 3) (.c (.int .i64 0)),[]⟩,⟨2,some 5,none,.mov (.t 4),[]⟩,⟨3,some 6,(some (5,true)),.mov (.t 0),[]⟩,⟨4,some 7,(some (5,true)),.bin .leq (.t 6) (.c (.int .i64 2)),[]⟩,⟨5,some 8,none,.pick (.t 5) (.t 7) (.c (.bool false)),[]⟩,⟨6,some 2,none,.mov (.t 8),[]⟩]) .ret)
attribute [irreducible] c_shape_family
theorem run_shape_family {args : List Value} {w : World} {K : Value → World → Prop} (hn : args.length ≤ 9) (h : WP Try.prog c_shape_family (endQ [.t 2] K) (initT args) w) : CallV Try.prog 160 args w K :=
  call_of follows Try.func160 (by kernel_rfl) (by kernel_rfl) hn h
def c_shape_pow2 : C := .seq (.ops [⟨0,some 2,none,.mov (.c (.int .i64 0)),[]⟩]) (.seq (.ops [⟨0,some 3,none,.mov (.c (.int .i64 1)),[]⟩]) (.seq (.block 0 (.loop (.seq (.seq (.ops [⟨0,some 4,none,.mov (.t 3),[]⟩,⟨1,some 5,none,.mov (.t 0),[]⟩,⟨2,some 6,none,.bin .lss (.t 4) (.t 5),[]⟩]) (.ite (.t 6) .skip (.exit 0))) (.block 1 (.ops [⟨0,some 7,none,.mov (.t 3),[]⟩,⟨1,some 8,none,.bin .shl (.t 7) (.c (.int .u64 1)),[]⟩,⟨2,some 3,none,.mov (.t 8),[]⟩]))))) (.seq (.ops [⟨0,some 9,none,.mov (.t 3),[]⟩,⟨1,some 2,none,.mov (.t 9),[]⟩]) .ret)))
attribute [irreducible] c_shape_pow2
theorem run_shape_pow2 {args : List Value} {w : World} {K : Value → World → Prop} (hn : args.length ≤ 10) (h : WP Try.prog c_shape_pow2 (endQ [.t 2] K) (initT args) w) : CallV Try.prog 161 args w K :=
  call_of follows Try.func161 (by kernel_rfl) (by kernel_rfl) hn h
end Go.Proofs.Ytbaljbadlfopgaa.Fw
namespace Go.Proofs.Ytbaljbadlfopgaa.Fw
open Go Go.Fw
def pwN : Nat → Nat → Nat → Nat
  | 0, p, _ => p
  | j + 1, p, n => if p < n then pwN j (2 * p) n else p
def prm (f k m : Int) : Int := if ¬ (0 ≤ f ∧ f ≤ 2) then 2 else if k < 1 ∨ m < 1 ∨ 65536 < k ∨ 65536 < m then 4 else if f ≠ 2 ∧ 256 < k + m then 4 else if f = 2 ∧ 65536 < k + (pwN 17 1 m.toNat : Nat) then 4 else 0
theorem prm_ok {f k m : Int} (h : prm f k m = 0) : 1 ≤ k ∧ k ≤ 65536 ∧ 1 ≤ m ∧ m ≤ 65536 := by
  unfold prm at h
  split at h
  · omega
  · split at h
    · omega
    · omega
theorem pwN_le : ∀ (j p n : Nat), pwN j p n ≤ 2 ^ j * p
  | 0, p, n => by simp [pwN]
  | j + 1, p, n => by
    unfold pwN
    split
    · have := pwN_le j (2 * p) n
      rw [Nat.pow_succ, Nat.mul_assoc]; exact this
    · have := Nat.two_pow_pos (j + 1)
      exact Nat.le_mul_of_pos_left _ this
theorem shape_family_spec (w : World) (f : Int) : CallV Try.prog 160 [.int .i64 f] w fun v w' => v = .bool (decide (0 ≤ f ∧ f ≤ 2)) ∧ w' = w := by
  refine run_shape_family (by simp) ?_
  simp only [c_shape_family, WS, ↓reduceIte, Nat.reduceEqDiff, reduceCtorEq]
  by_cases h1 : 0 ≤ f
  · by_cases h2 : f ≤ 2
    · rw [decide_eq_true (show 0 ≤ f ∧ f ≤ 2 from ⟨h1, h2⟩)]
      simp (maxSteps := 1000000) (disch := omega) only [WS, ↓reduceIte, Nat.reduceEqDiff, reduceCtorEq, AS]
    · rw [decide_eq_false (show ¬ (0 ≤ f ∧ f ≤ 2) from fun h => h2 h.2)]
      simp (maxSteps := 1000000) (disch := omega) only [WS, ↓reduceIte, Nat.reduceEqDiff, reduceCtorEq, AS]
  · rw [decide_eq_false (show ¬ (0 ≤ f ∧ f ≤ 2) from fun h => h1 h.1)]
    simp (maxSteps := 1000000) (disch := omega) only [WS, ↓reduceIte, Nat.reduceEqDiff, reduceCtorEq, AS]
theorem shape_pow2_spec (w : World) (n : Nat) (hn : n ≤ 65536) : CallV Try.prog 161 [.int .i64 (n : Int)] w fun v w' => v = .int .i64 ((pwN 17 1 n : Nat) : Int) ∧ w' = w := by
  refine run_shape_pow2 (by simp) ?_
  simp only [c_shape_pow2, WS, ↓reduceIte, Nat.reduceEqDiff, reduceCtorEq]
  refine loop_of (fun t w' => w' = w ∧ t 0 = .int .i64 (n : Int) ∧ ∃ j p : Nat, t 3 = .int .i64 (p : Int) ∧ j ≤ 17 ∧ p = 2 ^ (17 - j) ∧ pwN j p n = pwN 17 1 n) (fun t _ => 200000 - (toI (t 3)).toNat) ⟨rfl, by simp only [WS, ↓reduceIte, Nat.reduceEqDiff, reduceCtorEq], 17, 1, rfl, by omega, rfl, rfl⟩ ?_
  rintro t w' ⟨rfl, t0, j, p, t3, hj, hp, he⟩
  by_cases hlt : p < n
  · obtain ⟨i, rfl⟩ : ∃ i, j = i + 1 := by
      rcases j with _ | i
      · exfalso
        have : (2 : Nat) ^ 17 = 131072 := by decide
        rw [Nat.sub_zero, this] at hp
        omega
      · exact ⟨i, rfl⟩
    have h2 : shlV .i64 (p : Int) 1 = ((2 * p : Nat) : Int) := by
      show IntKind.i64.wrap ((p : Int) * 2 ^ 1) = _
      rw [wrap_id (by omega) (by omega)]; omega
    have h0 : 0 < p := by rw [hp]; exact Nat.two_pow_pos _
    simp (maxSteps := 1000000) (disch := omega) only [WS, ↓reduceIte, Nat.reduceEqDiff, reduceCtorEq, AS, t0, t3, X_shl, h2, show ((0 : Int) ≤ 1) = True from eq_true (by decide)]
    refine ⟨⟨i, 2 * p, rfl, by omega, ?_, ?_⟩, by omega⟩
    · rw [hp, ← Nat.pow_succ']; congr 1; omega
    · rw [← he]; show _ = (if p < n then _ else _); rw [if_pos hlt]
  · simp (maxSteps := 1000000) (disch := omega) only [WS, ↓reduceIte, Nat.reduceEqDiff, reduceCtorEq, AS, t0, t3]
    have : pwN j p n = p := by
      cases j with
      | zero => rfl
      | succ i => show (if p < n then _ else _) = _; rw [if_neg hlt]
    rw [← he, this]
theorem shape_Params_spec (w : World) (f k m : Int) : CallV Try.prog 155 [.int .i64 f, .int .i64 k, .int .i64 m] w fun v w' => v = .int .i64 (prm f k m) ∧ w' = w := by
  refine run_shape_Params (by simp) ?_
  simp only [c_shape_Params, WS, ↓reduceIte, Nat.reduceEqDiff, reduceCtorEq]
  refine X_call0 ((shape_family_spec w f).mono ?_)
  rintro _ w' ⟨rfl, rfl⟩
  unfold prm
  by_cases hf : 0 ≤ f ∧ f ≤ 2
  rotate_left
  · rw [decide_eq_false hf, if_pos hf]
    simp (maxSteps := 1000000) (disch := omega) only [WS, ↓reduceIte, Nat.reduceEqDiff, reduceCtorEq, AS]
  rw [decide_eq_true hf, if_neg (fun h => h hf)]
  by_cases h1 : k < 1
  · rw [if_pos (Or.inl h1)]
    simp (maxSteps := 1000000) (disch := omega) only [WS, ↓reduceIte, Nat.reduceEqDiff, reduceCtorEq, AS]
  by_cases h2 : m < 1
  · rw [if_pos (Or.inr (Or.inl h2))]
    simp (maxSteps := 1000000) (disch := omega) only [WS, ↓reduceIte, Nat.reduceEqDiff, reduceCtorEq, AS]
  by_cases h3 : 65536 < k
  · rw [if_pos (Or.inr (Or.inr (Or.inl h3)))]
    simp (maxSteps := 1000000) (disch := omega) only [WS, ↓reduceIte, Nat.reduceEqDiff, reduceCtorEq, AS]
  by_cases h4 : 65536 < m
  · rw [if_pos (Or.inr (Or.inr (Or.inr h4)))]
    simp (maxSteps := 1000000) (disch := omega) only [WS, ↓reduceIte, Nat.reduceEqDiff, reduceCtorEq, AS]
  rw [if_neg (by omega)]
  have hkw : IntKind.i64.wrap (k + m) = k + m := wrap_id (by omega) (by omega)
  by_cases h5 : f = 2
  rotate_left
  · by_cases h6 : 256 < k + m
    · rw [if_pos ⟨h5, h6⟩]
      simp (maxSteps := 1000000) (disch := omega) only [WS, ↓reduceIte, Nat.reduceEqDiff, reduceCtorEq, AS, hkw]
    · rw [if_neg (fun h => h6 h.2), if_neg (fun h => h5 h.1)]
      simp (maxSteps := 1000000) (disch := omega) only [WS, ↓reduceIte, Nat.reduceEqDiff, reduceCtorEq, AS, hkw]
  · rw [if_neg (fun h => h.1 h5)]
    subst h5
    have hp := pwN_le 17 1 m.toNat
    rw [Nat.mul_one] at hp
    have h217 : (2 : Nat) ^ 17 = 131072 := by decide
    rw [h217] at hp
    obtain ⟨mn, rfl⟩ : ∃ mn : Nat, m = (mn : Int) := ⟨m.toNat, by omega⟩
    rw [Int.toNat_natCast] at hp ⊢
    simp (maxSteps := 1000000) (disch := omega) only [WS, ↓reduceIte, Nat.reduceEqDiff, reduceCtorEq, AS, show decide ((2 : Int) = 2) = true from rfl]
    refine X_call0 ((shape_pow2_spec w' mn (by omega)).mono ?_)
    rintro _ w2 ⟨rfl, rfl⟩
    have hkp : IntKind.i64.wrap (k + (pwN 17 1 mn : Nat)) = k + (pwN 17 1 mn : Nat) := wrap_id (by omega) (by omega)
    by_cases h7 : 65536 < k + (pwN 17 1 mn : Nat)
    · rw [if_pos h7]
      simp (maxSteps := 1000000) (disch := omega) only [WS, ↓reduceIte, Nat.reduceEqDiff, reduceCtorEq, AS, hkp, show decide ((2 : Int) = 2) = true from rfl]
    · rw [if_neg h7]
      simp (maxSteps := 1000000) (disch := omega) only [WS, ↓reduceIte, Nat.reduceEqDiff, reduceCtorEq, AS, hkp, show decide ((2 : Int) = 2) = true from rfl]
def cnt (f k m : Int) (n : Nat) : Int := if prm f k m ≠ 0 then prm f k m else if (n : Int) ≠ k + m then 160 else 0
theorem cnt_ok {f k m : Int} {n : Nat} (h : cnt f k m n = 0) : 1 ≤ k ∧ k ≤ 65536 ∧ 1 ≤ m ∧ m ≤ 65536 ∧ (n : Int) = k + m := by
  unfold cnt at h
  split at h
  · rename_i h1; exact absurd h h1
  · rename_i h1
    have := prm_ok (Decidable.not_not.1 h1)
    split at h
    · omega
    · omega
theorem shape_counted_spec (w : World) (f k m : Int) (s : Value) (hs : List Hd) (h : Sl w s hs) : CallV Try.prog 131 [.int .i64 f, .int .i64 k, .int .i64 m, s] w fun v w' => v = .int .i64 (cnt f k m hs.length) ∧ w' = w := by
  refine run_shape_counted (by simp) ?_
  simp only [c_shape_counted, WS, ↓reduceIte, Nat.reduceEqDiff, reduceCtorEq]
  refine X_call0 ((shape_Params_spec w f k m).mono ?_)
  rintro _ w' ⟨rfl, rfl⟩
  unfold cnt
  by_cases h0 : prm f k m = 0
  · have := prm_ok h0
    have hkw : IntKind.i64.wrap (k + m) = k + m := wrap_id (by omega) (by omega)
    rw [if_neg (fun e => e h0), h0]
    by_cases h1 : (hs.length : Int) = k + m
    · rw [if_neg (fun e => e h1)]
      simp (maxSteps := 1000000) (disch := omega) only [WS, ↓reduceIte, Nat.reduceEqDiff, reduceCtorEq, AS, show decide ((0 : Int) = 0) = true from rfl, h.Xlen, hkw]
    · rw [if_pos h1]
      simp (maxSteps := 1000000) (disch := omega) only [WS, ↓reduceIte, Nat.reduceEqDiff, reduceCtorEq, AS, show decide ((0 : Int) = 0) = true from rfl, h.Xlen, hkw]
  · rw [if_pos h0]
    simp (maxSteps := 1000000) (disch := omega) only [WS, ↓reduceIte, Nat.reduceEqDiff, reduceCtorEq, AS]
/-- What 'lengths' finds: L: the lengths, n: how many. -/
structure Lns (L : Nat → Nat) (n len : Nat) (ev : Bool) : Prop where
  z : len = 0 ↔ ∀ j, j < n → L j = 0
  e : ev = true ↔ ∀ j, j < n → L j = 0 ∨ L j = len
  m : len ≠ 0 → ∃ j, j < n ∧ L j = len
def zis (L : Nat → Nat) (n : Nat) : List Int := ((List.range n).filter fun j => decide (L j = 0)).map fun (j : Nat) => (j : Int)
theorem zis_le (L : Nat → Nat) (n : Nat) : (zis L n).length ≤ n := by
  unfold zis
  rw [List.length_map]
  have := List.length_filter_le (fun j => decide (L j = 0)) (List.range n)
  rwa [List.length_range] at this
theorem zis_succ (L : Nat → Nat) (n : Nat) : zis L (n + 1) = if L n = 0 then zis L n ++ [(n : Int)] else zis L n := by
  unfold zis
  rw [List.range_succ, List.filter_append, List.map_append]
  by_cases h : L n = 0
  · rw [if_pos h]; simp [h]
  · rw [if_neg h]; simp [h]
def hln (hs : List Hd) (j : Nat) : Nat := (hs.getD j hdn).n
theorem hln_get (hs : List Hd) {j : Nat} (h : j < hs.length) : hln hs j = hs[j].n := by
  unfold hln
  rw [List.getD_eq_getElem?_getD, List.getElem?_eq_getElem h]; rfl
theorem shape_lengths_spec (w : World) (s : Value) (hs : List Hd) (h : Sl w s hs) (hb : hs.length ≤ 131072) : CallV Try.prog 132 [s] w fun v w' => ∃ (len : Nat) (ev : Bool) (z : Value), v = .tuple #[.int .i64 (len : Int), z, .bool ev] ∧ Lns (hln hs) hs.length len ev ∧ Ow w.heap.size w' z (zis (hln hs) hs.length) ∧ RowKit.Below w.heap.size w w' := by
  refine run_shape_lengths (by simp) ?_
  simp only [c_shape_lengths, WS, ↓reduceIte, Nat.reduceEqDiff, reduceCtorEq, h.Xlen]
  refine loop_of (fun t w' => t 0 = s ∧ t 7 = s ∧ t 8 = .int .i64 (hs.length : Int) ∧ RowKit.Below w.heap.size w w' ∧ ∃ (i len : Nat) (ev : Bool) (z : Value), t 9 = .int .i64 (i : Int) ∧ i ≤ hs.length ∧ t 2 = .int .i64 (len : Int) ∧ t 3 = z ∧ t 4 = .bool ev ∧ Lns (hln hs) i len ev ∧ Ow w.heap.size w' z (zis (hln hs) i))
    (fun t _ => hs.length - (toI (t 9)).toNat) ⟨by simp only [WS, ↓reduceIte, Nat.reduceEqDiff, reduceCtorEq], by simp only [WS, ↓reduceIte, Nat.reduceEqDiff, reduceCtorEq], by simp only [WS, ↓reduceIte, Nat.reduceEqDiff, reduceCtorEq], RowKit.Below.refl _ _, 0, 0, true, .slice none 0 0, rfl, by omega, rfl, rfl, rfl, ⟨⟨fun _ j hj => by omega, fun _ => rfl⟩, ⟨fun _ j hj => by omega, fun _ => rfl⟩, fun h => absurd rfl h⟩, Ow.nil _ _⟩ ?_
  rintro t w' ⟨t0, t7, t8, B, i, len, ev, z, t9, hi, t2, t3, t4, hL, oz⟩
  by_cases hlt : i < hs.length
  · have h' := h.up B
    have hx := hln_get hs hlt
    have hzl := zis_le (hln hs) i
    simp (maxSteps := 1000000) (disch := omega) only [WS, ↓reduceIte, Nat.reduceEqDiff, reduceCtorEq, AS, t0, t7, t8, t9, t2, t3, t4, h'.Xix hlt, h'.Xld hlt, cell_hd, X_lenS]
    by_cases h0 : hln hs i = 0
    · have h0' : hs[i].n = 0 := by rw [← hx]; exact h0
      rw [h0']
      simp (maxSteps := 1000000) (disch := omega) only [WS, ↓reduceIte, Nat.reduceEqDiff, reduceCtorEq, AS, show decide (((0 : Nat) : Int) = 0) = true from rfl, t0, t7, t8, t9, t2, t3, t4]
      refine X_bsl (zs := [(i : Int)]) (by rfl) (by rfl) fun a w2 oa hB => ?_
      have B2 := B.trans (hB.mono B.size)
      have oz2 := oz.up hB
      simp (maxSteps := 1000000) (disch := omega) only [WS, ↓reduceIte, Nat.reduceEqDiff, reduceCtorEq, AS, t0, t7, t8, t9, t2, t3, t4]
      refine Ow.Xapp oz2 oa.sl B2.size (by simp only [List.length_cons, List.length_nil, maxBytes]; omega) (by simp only [List.length_cons, List.length_nil]; omega) fun z' w3 oz' hg hnear => ?_
      have B3 := B2.grown hg B2.size fun b hb => (oz2.blk b hb).1
      simp (maxSteps := 1000000) (disch := omega) only [WS, ↓reduceIte, Nat.reduceEqDiff, reduceCtorEq, AS, t0, t7, t8, t9, t2, t3, t4]
      refine ⟨⟨B3, i + 1, len, ev, z', rfl, by omega, rfl, rfl, rfl, ⟨⟨fun e j hj => ?_, fun e => hL.z.2 fun j hj => e j (by omega)⟩, ⟨fun e j hj => ?_, fun e => hL.e.2 fun j hj => e j (by omega)⟩, fun e => ?_⟩, ?_⟩, by omega⟩
      · by_cases hj2 : j = i
        · rw [hj2]; exact h0
        · exact hL.z.1 e j (by omega)
      · by_cases hj2 : j = i
        · rw [hj2]; exact Or.inl h0
        · exact hL.e.1 e j (by omega)
      · obtain ⟨j, hj, e2⟩ := hL.m e
        exact ⟨j, by omega, e2⟩
      · rw [zis_succ, if_pos h0]; exact oz'
    · have h0' : hs[i].n ≠ 0 := by rw [← hx]; exact h0
      by_cases hl0 : len = 0
      · subst hl0
        simp (maxSteps := 1000000) (disch := omega) only [WS, ↓reduceIte, Nat.reduceEqDiff, reduceCtorEq, AS, t0, t7, t8, t9, t2, t3, t4, show decide (((0 : Nat) : Int) = 0) = true from rfl, X_lenS]
        refine ⟨⟨B, i + 1, hs[i].n, ev, z, rfl, by omega, rfl, rfl, rfl, ⟨⟨fun e => absurd e h0', fun e => absurd (e i (by omega)) h0⟩, ⟨fun e j hj => ?_, fun e => hL.e.2 fun j hj => Or.inl (hL.z.1 rfl j hj)⟩, fun e => ⟨i, by omega, hx⟩⟩, ?_⟩, by omega⟩
        · by_cases hj2 : j = i
          · rw [hj2]; exact Or.inr hx
          · exact Or.inl (hL.z.1 rfl j (by omega))
        · rw [zis_succ, if_neg h0]; exact oz
      · by_cases hne : len = hs[i].n
        · simp (maxSteps := 1000000) (disch := omega) only [WS, ↓reduceIte, Nat.reduceEqDiff, reduceCtorEq, AS, t0, t7, t8, t9, t2, t3, t4, X_lenS]
          refine ⟨⟨B, i + 1, len, ev, z, rfl, by omega, rfl, rfl, rfl, ⟨⟨fun e => absurd e hl0, fun e => absurd (e i (by omega)) h0⟩, ⟨fun e j hj => ?_, fun e => hL.e.2 fun j hj => e j (by omega)⟩, fun e => ⟨i, by omega, by rw [hx, hne]⟩⟩, ?_⟩, by omega⟩
          · by_cases hj2 : j = i
            · rw [hj2]; exact Or.inr (by rw [hx, hne])
            · exact hL.e.1 e j (by omega)
          · rw [zis_succ, if_neg h0]; exact oz
        · simp (maxSteps := 1000000) (disch := omega) only [WS, ↓reduceIte, Nat.reduceEqDiff, reduceCtorEq, AS, t0, t7, t8, t9, t2, t3, t4, X_lenS]
          refine ⟨⟨B, i + 1, len, false, z, rfl, by omega, rfl, rfl, rfl, ⟨⟨fun e => absurd e hl0, fun e => absurd (e i (by omega)) h0⟩, ⟨fun e => (by cases e), fun e => ?_⟩, fun e => ?_⟩, ?_⟩, by omega⟩
          · exfalso
            rcases e i (by omega) with e1 | e1
            · exact h0 e1
            · exact hne (by rw [← e1, hx])
          · obtain ⟨j, hj, e2⟩ := hL.m e
            exact ⟨j, by omega, e2⟩
          · rw [zis_succ, if_neg h0]; exact oz
  · obtain rfl : i = hs.length := by omega
    simp (maxSteps := 1000000) (disch := omega) only [WS, ↓reduceIte, Nat.reduceEqDiff, reduceCtorEq, AS, t0, t7, t8, t9, t2, t3, t4]
    exact ⟨len, ev, z, rfl, hL, oz, B⟩
end Go.Proofs.Ytbaljbadlfopgaa.Fw

set_option linter.unusedVariables false
set_option linter.unusedSimpArgs false
set_option maxRecDepth 100000
set_option maxHeartbeats 1000000
namespace Go.Proofs.Ytbaljbadlfopgaa.Fw
open Go Go.Fw Go.Proofs
attribute [local irreducible] stepI
def c_shape_Partial : C := .seq (.ops [⟨0,some 8,none,.mov (.c (.int .i64 0)),[]⟩,⟨1,some 9,none,.mov (.c (.slice none 0 0)),[]⟩,⟨2,some 10,none,.mov (.c (.int .i64 0)),[]⟩]) (.seq (.seq (.ops [⟨0,some 15,none,.mov (.t 0),[]⟩,⟨1,some 16,none,.mov (.t 1),[]⟩,⟨2,some 17,none,.mov (.t 2),[]⟩,⟨3,some 18,none,.mov (.t 3),[]⟩,⟨4,some 19,none,.call (.c (.func (.func 131) #[] #[])) [.t 15,.t 16,.t 17,.t 18],[]⟩,⟨5,some 11,none,.mov (.t 19),[]⟩]) (.seq (.ops [⟨0,some 20,none,.mov (.t 11),[]⟩,⟨1,some 21,none,.bin .neq (.t 20) (.c (.int .i64 0)),[]⟩]) (.ite (.t 21) (.seq (.ops [⟨0,some 22,none,.mov (.t 11),[]⟩,⟨1,some 8,none,.mov (.c (.int .i64 0)),[]⟩,⟨2,some 9,none,.mov (.c (.slice none 0 0)),[]⟩,⟨3,some 10,none,.mov (.t 22),[]⟩]) .ret) .skip))) (.seq (.ops [⟨0,some 24,none,.mov (.t 3),[]⟩,⟨1,some 25,none,.call (.c (.func (.func 132) #[] #[])) [.t 24],[]⟩,⟨2,some 23,none,.mov (.t 25),[]⟩,⟨3,some 26,none,.ext (.t 23) 0,[]⟩,⟨4,some 27,none,.ext (.t 23) 1,[]⟩,⟨5,some 28,none,.ext (.t 23) 2,[]⟩,⟨6,some 12,none,.mov (.t 26),[]⟩,⟨7,some 13,none,.mov (.t 27),[]⟩,⟨8,some 14,none,.mov (.t 28),[]⟩]) (.seq (.block 0 (.seq (.ops [⟨0,some 30,none,.mov (.t 12),[]⟩,⟨1,some 31,none,.bin .eql (.t 30) (.c (.int .i64 0)),[]⟩,⟨2,some 29,none,.mov (.t 31),[]⟩]) (.ite (.t 29) (.seq (.ops [⟨0,some 8,none,.mov (.c (.int .i64 0)),[]⟩,⟨1,some 9,none,.mov (.c (.slice none 0 0)),[]⟩,⟨2,some 10,none,.mov (.c (.int .i64 161)),[]⟩]) .ret) (.seq (.ops [⟨0,some 33,none,.mov (.t 14),[]⟩,⟨1,some 34,none,.un .not (.t 33),[]⟩,⟨2,some 32,none,.mov (.t 34),[]⟩]) (.ite (.t 32) (.seq (.ops [⟨0,some 8,none,.mov (.c (.int .i64 0)),[]⟩,⟨1,some 9,none,.mov (.c (.slice none 0 0)),[]⟩,⟨2,some 10,none,.mov (.c (.int .i64 162)),[]⟩]) .ret) (.seq (.ops [⟨0,some 36,none,.mov (.t 0),[]⟩,⟨1,some 37,none,.mov (.t 12),[]⟩,⟨2,some 38,none,.call (.c (.func (.func 133) #[] #[])) [.t 36,.t 37],[]⟩,⟨3,some 35,none,.mov (.t 38),[]⟩]) (.ite (.t 35) (.seq (.ops [⟨0,some 8,none,.mov (.c (.int .i64 0)),[]⟩,⟨1,some 9,none,.mov (.c (.slice none 0 0)),[]⟩,⟨2,some 10,none,.mov (.c (.int .i64 8)),[]⟩]) .ret) (.seq (.ops [⟨0,some 40,none,.mov (.t 13),[]⟩,⟨1,some 41,none,.len (.t 40),[]⟩,⟨2,some 42,none,.mov (.t 2),[]⟩,⟨3,some 43,none,.bin .gtr (.t 41) (.t 42),[]⟩,⟨4,some 39,none,.mov (.t 43),[]⟩]) (.ite (.t 39) (.seq (.ops [⟨0,some 8,none,.mov (.c (.int .i64 0)),[]⟩,⟨1,some 9,none,.mov (.c (.slice none 0 0)),[]⟩,⟨2,some 10,none,.mov (.c (.int .i64 9)),[]⟩]) .ret) .skip))))))))) (.seq (.ops [⟨0,some 44,none,.mov (.t 12),[]⟩,⟨1,some 45,none,.mov (.t 13),[]⟩,⟨2,some 8,none,.mov (.t 44),[]⟩,⟨3,some 9,none,.mov (.t 45),[]⟩,⟨4,some 10,none,.mov (.c (.int .i64 0)),[]⟩]) .ret))))
attribute [irreducible] c_shape_Partial
theorem run_shape_Partial {args : List Value} {w : World} {K : Value → World → Prop} (hn : args.length ≤ 46) (h : WP Try.prog c_shape_Partial (endQ [.t 8, .t 9, .t 10] K) (initT args) w) : CallV Try.prog 92 args w K :=
  call_of follows Try.func92 (by kernel_rfl) (by kernel_rfl) hn h
def c_shape_odd : C := .seq (.ops [⟨0,some 4,none,.mov (.c (.bool false)),[]⟩]) (.seq (.ops [⟨0,some 5,none,.mov (.t 0),[]⟩,⟨1,some 6,none,.bin .eql (.t 5) (.c (.int .i64 2)),[]⟩,⟨2,some 7,none,.mov (.t 6),[]⟩,⟨3,some 8,(some (7,true)),.mov (.t 1),[]⟩,⟨4,some 9,(some (7,true)),.bin .rem (.t 8) (.c (.int .i64 2)),[]⟩,⟨5,some 10,(some (7,true)),.bin .eql (.t 9) (.c (.int .i64 1)),[]⟩,⟨6,some 11,none,.pick (.t 7) (.t 10) (.c (.bool false)),[]⟩,⟨7,some 4,none,.mov (.t 11),[]⟩]) .ret)
attribute [irreducible] c_shape_odd
theorem run_shape_odd {args : List Value} {w : World} {K : Value → World → Prop} (hn : args.length ≤ 12) (h : WP Try.prog c_shape_odd (endQ [.t 4] K) (initT args) w) : CallV Try.prog 133 args w K :=
  call_of follows Try.func133 (by kernel_rfl) (by kernel_rfl) hn h
end Go.Proofs.Ytbaljbadlfopgaa.Fw
namespace Go.Proofs.Ytbaljbadlfopgaa.Fw
open Go Go.Fw
def oddB (f : Int) (len : Nat) : Bool := decide (f = 2 ∧ len % 2 = 1)
theorem shape_odd_spec (w : World) (f : Int) (len : Nat) : CallV Try.prog 133 [.int .i64 f, .int .i64 (len : Int)] w fun v w' => v = .bool (oddB f len) ∧ w' = w := by
  refine run_shape_odd (by simp) ?_
  simp only [c_shape_odd, WS, ↓reduceIte, Nat.reduceEqDiff, reduceCtorEq]
  have ht : ((len : Nat) : Int).tmod 2 = ((len % 2 : Nat) : Int) := tmod_nat len 2
  by_cases h1 : f = 2
  · by_cases h2 : len % 2 = 1
    · rw [show oddB f len = true from decide_eq_true ⟨h1, h2⟩]
      simp (maxSteps := 1000000) (disch := omega) only [WS, ↓reduceIte, Nat.reduceEqDiff, reduceCtorEq, AS, X_rem, ht]
      omega
    · rw [show oddB f len = false from decide_eq_false fun h => h2 h.2]
      simp (maxSteps := 1000000) (disch := omega) only [WS, ↓reduceIte, Nat.reduceEqDiff, reduceCtorEq, AS, X_rem, ht]
      omega
  · rw [show oddB f len = false from decide_eq_false fun h => h1 h.1]
    simp (maxSteps := 1000000) (disch := omega) only [WS, ↓reduceIte, Nat.reduceEqDiff, reduceCtorEq, AS]
def prt (f k m : Int) (n z len : Nat) (ev : Bool) : Int × Int := if cnt f k m n ≠ 0 then (0, cnt f k m n) else if len = 0 then (0, 161) else if ev = false then (0, 162) else if oddB f len then (0, 8) else if m < z then (0, 9) else ((len : Int), 0)
theorem shape_Partial_spec (w : World) (f k m : Int) (s : Value) (hs : List Hd) (h : Sl w s hs) : CallV Try.prog 92 [.int .i64 f, .int .i64 k, .int .i64 m, s] w fun v w' => RowKit.Below w.heap.size w w' ∧ ∃ (len : Nat) (ev : Bool) (z : Value), (cnt f k m hs.length = 0 → Lns (hln hs) hs.length len ev) ∧
    v = .tuple #[.int .i64 (prt f k m hs.length (zis (hln hs) hs.length).length len ev).1, z, .int .i64 (prt f k m hs.length (zis (hln hs) hs.length).length len ev).2] ∧ Ow w.heap.size w' z (if (prt f k m hs.length (zis (hln hs) hs.length).length len ev).2 = 0 then zis (hln hs) hs.length else []) := by
  refine run_shape_Partial (by simp) ?_
  simp only [c_shape_Partial, WS, ↓reduceIte, Nat.reduceEqDiff, reduceCtorEq]
  refine X_call0 ((shape_counted_spec w f k m s hs h).mono ?_)
  rintro _ w' ⟨rfl, rfl⟩
  by_cases h0 : cnt f k m hs.length = 0
  rotate_left
  · simp (maxSteps := 1000000) (disch := omega) only [WS, ↓reduceIte, Nat.reduceEqDiff, reduceCtorEq, AS]
    have e : prt f k m hs.length (zis (hln hs) hs.length).length 0 true = (0, cnt f k m hs.length) := by unfold prt; rw [if_pos h0]
    exact ⟨RowKit.Below.refl _ _, 0, true, _, fun e => absurd e h0, by rw [e], by rw [e, if_neg h0]; exact Ow.nil _ _⟩
  have hb := cnt_ok h0
  rw [h0]
  simp (maxSteps := 1000000) (disch := omega) only [WS, ↓reduceIte, Nat.reduceEqDiff, reduceCtorEq, AS, show decide ((0 : Int) = 0) = true from rfl]
  refine X_call0 ((shape_lengths_spec w' s hs h (by omega)).mono ?_)
  rintro _ w2 ⟨len, ev, z, rfl, hL, oz, B⟩
  by_cases hz : len = 0
  · simp (maxSteps := 1000000) (disch := omega) only [WS, ↓reduceIte, Nat.reduceEqDiff, reduceCtorEq, AS]
    have e : prt f k m hs.length (zis (hln hs) hs.length).length len ev = (0, 161) := by unfold prt; rw [if_neg (fun e => e h0), if_pos hz]
    exact ⟨B, len, ev, _, fun _ => hL, by rw [e], by rw [e, if_neg (by decide)]; exact Ow.nil _ _⟩
  cases ev
  · simp (maxSteps := 1000000) (disch := omega) only [WS, ↓reduceIte, Nat.reduceEqDiff, reduceCtorEq, AS]
    have e : prt f k m hs.length (zis (hln hs) hs.length).length len false = (0, 162) := by unfold prt; rw [if_neg (fun e => e h0), if_neg hz, if_pos rfl]
    exact ⟨B, len, false, _, fun _ => hL, by rw [e], by rw [e, if_neg (by decide)]; exact Ow.nil _ _⟩
  simp (maxSteps := 1000000) (disch := omega) only [WS, ↓reduceIte, Nat.reduceEqDiff, reduceCtorEq, AS]
  refine X_call0 ((shape_odd_spec w2 f len).mono ?_)
  rintro _ w3 ⟨rfl, rfl⟩
  by_cases ho : oddB f len = true
  · rw [ho]
    simp (maxSteps := 1000000) (disch := omega) only [WS, ↓reduceIte, Nat.reduceEqDiff, reduceCtorEq, AS]
    have e : prt f k m hs.length (zis (hln hs) hs.length).length len true = (0, 8) := by unfold prt; rw [if_neg (fun e => e h0), if_neg hz, if_neg (by simp), if_pos ho]
    exact ⟨B, len, true, _, fun _ => hL, by rw [e], by rw [e, if_neg (by decide)]; exact Ow.nil _ _⟩
  rw [Bool.not_eq_true] at ho
  rw [ho]
  by_cases hm : m < ((zis (hln hs) hs.length).length : Int)
  · simp (maxSteps := 1000000) (disch := omega) only [WS, ↓reduceIte, Nat.reduceEqDiff, reduceCtorEq, AS, oz.sl.Xlen]
    have e : prt f k m hs.length (zis (hln hs) hs.length).length len true = (0, 9) := by unfold prt; rw [if_neg (fun e => e h0), if_neg hz, if_neg (by simp), if_neg (by simp [ho]), if_pos hm]
    exact ⟨B, len, true, _, fun _ => hL, by rw [e], by rw [e, if_neg (by decide)]; exact Ow.nil _ _⟩
  · simp (maxSteps := 1000000) (disch := omega) only [WS, ↓reduceIte, Nat.reduceEqDiff, reduceCtorEq, AS, oz.sl.Xlen]
    have e : prt f k m hs.length (zis (hln hs) hs.length).length len true = ((len : Int), 0) := by unfold prt; rw [if_neg (fun e => e h0), if_neg hz, if_neg (by simp), if_neg (by simp [ho]), if_neg hm]
    exact ⟨B, len, true, _, fun _ => hL, by rw [e], by rw [e, if_pos rfl]; exact oz⟩
end Go.Proofs.Ytbaljbadlfopgaa.Fw
