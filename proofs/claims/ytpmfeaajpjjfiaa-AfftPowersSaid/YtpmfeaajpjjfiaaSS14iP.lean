import Derived.Test.YtpmfeaajpjjfiaaProg
import Derived.Test.YtpmfeaajpjjfiaaFwTP
import Derived.Test.YtpmfeaajpjjfiaaSS14hP
import Derived.Test.YtpmfeaajpjjfiaaFwVP
set_option linter.all false
set_option linter.unusedVariables false
set_option linter.unusedSimpArgs false
set_option maxRecDepth 100000
set_option maxHeartbeats 1000000
namespace Go.Proofs.Ytpmfeaajpjjfiaa.Fw
open Go Go.Fw Go.Proofs
attribute [local irreducible] stepI
def c_afft_ForwardRows : C := .seq (.ops [⟨0, (some 4), none, .mov (.c (.int .i64 0)), []⟩]) (.seq (.seq (.ops [⟨0, (some 12), none, .mov (.t 0), []⟩, ⟨1, (some 13), none, .mov (.t 1), []⟩, ⟨2, (some 14), none, .call (.c (.func (.func 41) #[] #[])) [.t 12, .t 13], []⟩, ⟨3, (some 5), none, .mov (.t 14), []⟩]) (.seq (.ops [⟨0, (some 15), none, .mov (.t 5), []⟩, ⟨1, (some 16), none, .bin .neq (.t 15) (.c (.int .i64 0)), []⟩]) (.ite (.t 16) (.seq (.ops [⟨0, (some 17), none, .mov (.t 5), []⟩, ⟨1, (some 4), none, .mov (.t 17), []⟩]) .ret) .skip))) (.seq (.ops [⟨0, (some 18), none, .mov (.t 0), []⟩, ⟨1, (some 19), none, .len (.t 18), []⟩, ⟨2, (some 6), none, .mov (.t 19), []⟩]) (.seq (.seq (.ops [⟨0, (some 20), none, .mov (.t 6), []⟩, ⟨1, (some 21), none, .call (.c (.func (.func 38) #[] #[])) [.t 20], []⟩, ⟨2, (some 22), none, .mov (.t 6), []⟩, ⟨3, (some 23), none, .bin .quo (.t 22) (.c (.int .i64 2)), []⟩, ⟨4, (some 7), none, .mov (.t 21), []⟩, ⟨5, (some 8), none, .mov (.t 23), []⟩]) (.block 0 (.loop (.seq (.seq (.ops [⟨0, (some 24), none, .mov (.t 8), []⟩, ⟨1, (some 25), none, .bin .gtr (.t 24) (.c (.int .i64 0)), []⟩]) (.ite (.t 25) .skip (.exit 0))) (.seq (.block 1 (.seq (.ops [⟨0, (some 9), none, .mov (.c (.int .i64 0)), []⟩]) (.block 2 (.loop (.seq (.seq (.ops [⟨0, (some 30), none, .mov (.t 9), []⟩, ⟨1, (some 31), none, .mov (.t 6), []⟩, ⟨2, (some 32), none, .bin .lss (.t 30) (.t 31), []⟩]) (.ite (.t 32) .skip (.exit 2))) (.seq (.block 3 (.seq (.ops [⟨0, (some 37), none, .mov (.t 7), []⟩, ⟨1, (some 38), none, .mov (.t 1), []⟩, ⟨2, (some 39), none, .mov (.t 9), []⟩, ⟨3, (some 40), none, .bin .add (.t 38) (.t 39), []⟩, ⟨4, (some 41), none, .call (.c (.func (.func 37) #[] #[])) [.t 37, .t 40], []⟩, ⟨5, (some 10), none, .mov (.t 41), []⟩]) (.seq (.ops [⟨0, (some 42), none, .mov (.t 9), []⟩, ⟨1, (some 11), none, .mov (.t 42), []⟩]) (.block 4 (.loop (.seq (.seq (.ops [⟨0, (some 43), none, .mov (.t 11), []⟩, ⟨1, (some 44), none, .mov (.t 9), []⟩, ⟨2, (some 45), none, .mov (.t 8), []⟩, ⟨3, (some 46), none, .bin .add (.t 44) (.t 45), []⟩, ⟨4, (some 47), none, .bin .lss (.t 43) (.t 46), []⟩]) (.ite (.t 47) .skip (.exit 4))) (.seq (.block 5 (.dops [⟨0, (some 50), none, .mov (.t 10), []⟩, ⟨1, (some 51), none, .mov (.t 0), []⟩, ⟨2, (some 52), none, .mov (.t 11), []⟩, ⟨3, (some 53), none, .ixs 1 (.t 51) (.t 52), []⟩, ⟨4, (some 54), none, .ld (.t 53), []⟩, ⟨5, (some 55), none, .mov (.t 0), []⟩, ⟨6, (some 56), none, .mov (.t 11), []⟩, ⟨7, (some 57), none, .mov (.t 8), []⟩, ⟨8, (some 58), none, .bin .add (.t 56) (.t 57), []⟩, ⟨9, (some 59), none, .ixs 1 (.t 55) (.t 58), []⟩, ⟨10, (some 60), none, .ld (.t 59), []⟩, ⟨11, (some 61), none, .call (.c (.func (.func 39) #[] #[])) [.t 50, .t 54, .t 60], []⟩])) (.ops [⟨0, (some 48), none, .mov (.t 11), []⟩, ⟨1, (some 49), none, .bin .add (.t 48) (.c (.int .i64 1)), []⟩, ⟨2, (some 11), none, .mov (.t 49), []⟩])))))))) (.ops [⟨0, (some 33), none, .mov (.t 9), []⟩, ⟨1, (some 34), none, .mov (.t 8), []⟩, ⟨2, (some 35), none, .bin .mul (.c (.int .i64 2)) (.t 34), []⟩, ⟨3, (some 36), none, .bin .add (.t 33) (.t 35), []⟩, ⟨4, (some 9), none, .mov (.t 36), []⟩]))))))) (.ops [⟨0, (some 26), none, .mov (.t 7), []⟩, ⟨1, (some 27), none, .bin .sub (.t 26) (.c (.int .i64 1)), []⟩, ⟨2, (some 28), none, .mov (.t 8), []⟩, ⟨3, (some 29), none, .bin .quo (.t 28) (.c (.int .i64 2)), []⟩, ⟨4, (some 7), none, .mov (.t 27), []⟩, ⟨5, (some 8), none, .mov (.t 29), []⟩])))))) (.seq (.ops [⟨0, (some 4), none, .mov (.c (.int .i64 0)), []⟩]) .ret))))
attribute [irreducible] c_afft_ForwardRows
theorem run_afft_ForwardRows {args : List Value} {w : World} {K : Value → World → Prop} (hn : args.length ≤ 62) (h : WP Try.prog c_afft_ForwardRows (endQ [.t 4] K) (initT args) w) : CallV Try.prog 24 args w K :=
  call_of follows Try.func24 (by kernel_rfl) (by kernel_rfl) hn h
end Go.Proofs.Ytpmfeaajpjjfiaa.Fw
namespace Go.Proofs.Ytpmfeaajpjjfiaa.Fw
open Go Go.Fw
theorem rws_len {M : List (List (El 16)) → World → Prop} {rows : Value} {hs : List Hd} (h : Rws M rows hs) {R : List (List (El 16))} {w : World} (hm : M R w) {i : Nat} (hi : i < hs.length) : hs[i].n = (R.getD i []).length := by
  have hl := (h.hd R w hm).2
  have := (h.wr R i hi hl).sl (R.getD i []) w (by rw [set_getD R (by omega)]; exact hm)
  obtain ⟨a, c, e, -, -⟩ := this.sh
  rw [cell_hd] at e
  injection e
theorem all_n {hs : List Hd} {R : List (List (El 16))} (hl : ∀ i (hi : i < hs.length), hs[i].n = (R.getD i []).length) (h0 : 0 < hs.length) : (∀ x ∈ hs, x.n = (hs.headD ⟨none, 0, 0⟩).n) ↔ ∃ q, ∀ i, i < hs.length → (R.getD i []).length = q := by
  have hhd : hs.headD ⟨none, 0, 0⟩ = hs[0] := by cases hs with
    | nil => simp at h0
    | cons x l => rfl
  rw [hhd]
  constructor
  · intro h; exact ⟨hs[0].n, fun i hi => by rw [← hl i hi]; exact h _ (List.getElem_mem hi)⟩
  · rintro ⟨q, hq⟩ x hx
    obtain ⟨i, hi, rfl⟩ := List.mem_iff_getElem.1 hx
    rw [hl i hi, hl 0 h0, hq i hi, hq 0 h0]
theorem afft_ForwardRows_spec {M : List (List (El 16)) → World → Prop} (w : World) (rows : Value) (hs : List Hd) (R : List (List (El 16))) (a : Int) (hM : Rws M rows hs) (hm : M R w) (hb : hs.length ≤ 70368744175616) (hbr : ∀ i, i < hs.length → (R.getD i []).length ≤ 70368744175616) :
    CallV Try.prog 24 [rows, .int .i64 a] w fun v w' => (∃ k q, k ≤ 16 ∧ hs.length = 2 ^ k ∧ isC a (2 ^ k) (2 ^ k) = true ∧ (∀ i, i < 2 ^ k → (R.getD i []).length = q) ∧ v = .int .i64 0 ∧ ∃ R', M R' w' ∧ R'.length = R.length ∧ (∀ i, i < 2 ^ k → (R'.getD i []).length = q) ∧ ∀ i c, i < 2 ^ k → colf R' c i = itF a.toNat k (colf R c) i) ∨
      (w' = w ∧ ((isP (hs.length : Int) = false ∧ v = .int .i64 130) ∨ (isP (hs.length : Int) = true ∧ ¬ (∃ q, ∀ i, i < hs.length → (R.getD i []).length = q) ∧ v = .int .i64 6) ∨ (isP (hs.length : Int) = true ∧ (∃ q, ∀ i, i < hs.length → (R.getD i []).length = q) ∧ isC a hs.length hs.length = false ∧ v = .int .i64 140))) := by
  refine run_afft_ForwardRows (by simp) ?_
  obtain ⟨hsl, hRl⟩ := hM.hd R w hm
  have hlen := fun i (hi : i < hs.length) => rws_len hM hm hi
  simp only [c_afft_ForwardRows, WS, List.getElem_cons_zero, List.getElem_cons_succ, Option.isNone_some, Option.isNone_none, List.getD_cons_zero, List.getD_cons_succ, I.at, atL, atO, atP, evp, evs, retV, ↓reduceIte, Nat.reduceEqDiff, reduceCtorEq]
  refine X_call0 ((afft_refuses_spec w rows hs a hsl hb).mono ?_)
  rintro _ w' ⟨rfl, ⟨hp, rfl⟩ | ⟨hp, hn, rfl⟩ | ⟨hp, hn, hc, rfl⟩ | ⟨hp, hn, hc, rfl⟩⟩
  · simp (maxSteps := 1000000) (disch := omega) only [WS, List.getElem_cons_zero, List.getElem_cons_succ, Option.isNone_some, Option.isNone_none, List.getD_cons_zero, List.getD_cons_succ, I.at, atL, atO, atP, evp, evs, retV, ↓reduceIte, Nat.reduceEqDiff, reduceCtorEq, AS]
    exact Or.inr (Or.inl hp)
  · have h0 : 0 < hs.length := by obtain ⟨k, hk, hlk⟩ := (isP_iff _).1 hp; have := Nat.two_pow_pos k; omega
    rw [all_n hlen h0] at hn
    simp (maxSteps := 1000000) (disch := omega) only [WS, List.getElem_cons_zero, List.getElem_cons_succ, Option.isNone_some, Option.isNone_none, List.getD_cons_zero, List.getD_cons_succ, I.at, atL, atO, atP, evp, evs, retV, ↓reduceIte, Nat.reduceEqDiff, reduceCtorEq, AS]
    exact Or.inr (Or.inr (Or.inl ⟨hp, hn⟩))
  · have h0 : 0 < hs.length := by obtain ⟨k, hk, hlk⟩ := (isP_iff _).1 hp; have := Nat.two_pow_pos k; omega
    rw [all_n hlen h0] at hn
    simp (maxSteps := 1000000) (disch := omega) only [WS, List.getElem_cons_zero, List.getElem_cons_succ, Option.isNone_some, Option.isNone_none, List.getD_cons_zero, List.getD_cons_succ, I.at, atL, atO, atP, evp, evs, retV, ↓reduceIte, Nat.reduceEqDiff, reduceCtorEq, AS]
    exact Or.inr (Or.inr (Or.inr ⟨hp, hn, hc⟩))
  obtain ⟨k, hk, hlk⟩ := (isP_iff _).1 hp
  have hp0 := Nat.two_pow_pos k
  have hp16 := pow_le16 hk
  have hlk : hs.length = 2 ^ k := by omega
  rw [all_n hlen (by omega)] at hn
  obtain ⟨q, hq⟩ := hn
  have hq46 : q ≤ 70368744175616 := by rw [← hq 0 (by omega)]; exact hbr 0 (by omega)
  rw [hlk] at hc hq hRl
  have hc2 := hc
  unfold isC at hc2
  obtain ⟨c1, c2, c3, c4⟩ := of_decide_eq_true hc2
  obtain ⟨A, rfl⟩ : ∃ A : Nat, a = (A : Int) := ⟨a.toNat, by omega⟩
  rw [Int.toNat_natCast] at c4
  rw [Int.toNat_natCast]
  simp (maxSteps := 1000000) (disch := omega) only [WS, List.getElem_cons_zero, List.getElem_cons_succ, Option.isNone_some, Option.isNone_none, List.getD_cons_zero, List.getD_cons_succ, I.at, atL, atO, atP, evp, evs, retV, ↓reduceIte, Nat.reduceEqDiff, reduceCtorEq, AS, hsl.Xlen, hlk]
  refine X_call0 ((afft_levels_spec w' k hk).mono ?_)
  rintro _ w ⟨rfl, rfl⟩
  have e0 : IntKind.i64.wrap (((2 ^ k : Nat) : Int).tdiv 2) = ((2 ^ k / 2 : Nat) : Int) := by rw [show (2 : Int) = ((2 : Nat) : Int) from rfl, tdiv_nat, wrap_64 _ (by omega)]
  simp (maxSteps := 1000000) (disch := omega) only [WS, List.getElem_cons_zero, List.getElem_cons_succ, Option.isNone_some, Option.isNone_none, List.getD_cons_zero, List.getD_cons_succ, I.at, atL, atO, atP, evp, evs, retV, ↓reduceIte, Nat.reduceEqDiff, reduceCtorEq, AS, X_quo, e0, show ((2 : Int) ≠ 0) = True from eq_true (by decide)]
  refine loop_of (fun t w' => t 0 = rows ∧ t 1 = .int .i64 (A : Int) ∧ t 6 = .int .i64 ((2 ^ k : Nat) : Int) ∧ ∃ (r : Nat) (R' : List (List (El 16))), t 7 = .int .i64 ((r : Int) - 1) ∧ t 8 = .int .i64 ((2 ^ r / 2 : Nat) : Int) ∧ r ≤ k ∧ M R' w' ∧ R'.length = 2 ^ k ∧ (∀ i, i < 2 ^ k → (R'.getD i []).length = q) ∧
      ∀ c i, i < 2 ^ k → itF A r (colf R' c) i = itF A k (colf R c) i) (fun t _ => (toI (t 8)).toNat) ⟨by simp only [WS, List.getElem_cons_zero, List.getElem_cons_succ, Option.isNone_some, Option.isNone_none, List.getD_cons_zero, List.getD_cons_succ, I.at, atL, atO, atP, evp, evs, retV, ↓reduceIte, Nat.reduceEqDiff, reduceCtorEq], by simp only [WS, List.getElem_cons_zero, List.getElem_cons_succ, Option.isNone_some, Option.isNone_none, List.getD_cons_zero, List.getD_cons_succ, I.at, atL, atO, atP, evp, evs, retV, ↓reduceIte, Nat.reduceEqDiff, reduceCtorEq], by simp only [WS, List.getElem_cons_zero, List.getElem_cons_succ, Option.isNone_some, Option.isNone_none, List.getD_cons_zero, List.getD_cons_succ, I.at, atL, atO, atP, evp, evs, retV, ↓reduceIte, Nat.reduceEqDiff, reduceCtorEq], k, R, rfl, rfl, Nat.le_refl _, hm, hRl, hq, fun c i _ => rfl⟩ ?_
  clear hm hsl
  rintro t w2 ⟨t0, t1, t6, r, Rm, t7, t8, hr, hm, hml, hqm, hit⟩
  cases r with
  | zero =>
    simp (maxSteps := 1000000) (disch := omega) only [WS, List.getElem_cons_zero, List.getElem_cons_succ, Option.isNone_some, Option.isNone_none, List.getD_cons_zero, List.getD_cons_succ, I.at, atL, atO, atP, evp, evs, retV, ↓reduceIte, Nat.reduceEqDiff, reduceCtorEq, AS, t0, t1, t6, t7, t8, show decide ((0 : Int) < ((2 ^ 0 / 2 : Nat) : Int)) = false from rfl]
    exact Or.inl ⟨k, q, hk, rfl, hc, hq, Rm, hm, by omega, hqm, fun i c hi => hit c i hi⟩
  | succ j =>
  have hj1 : 2 ^ (j + 1) / 2 = 2 ^ j := by rw [Nat.pow_succ]; omega
  rw [hj1] at t8
  have e8 : ((j + 1 : Nat) : Int) - 1 = (j : Int) := by omega
  rw [e8] at t7
  · have hj0 := Nat.two_pow_pos j
    have hjk : 2 ^ j < 2 ^ k := Nat.pow_lt_pow_right (by omega) (by omega)
    have hmk := pow_mod_half (show j < k by omega)
    simp (maxSteps := 1000000) (disch := omega) only [WS, List.getElem_cons_zero, List.getElem_cons_succ, Option.isNone_some, Option.isNone_none, List.getD_cons_zero, List.getD_cons_succ, I.at, atL, atO, atP, evp, evs, retV, ↓reduceIte, Nat.reduceEqDiff, reduceCtorEq, AS, t0, t1, t6, t7, t8]
    refine loop_of (fun t w' => t 0 = rows ∧ t 1 = .int .i64 (A : Int) ∧ t 6 = .int .i64 ((2 ^ k : Nat) : Int) ∧ t 7 = .int .i64 (j : Int) ∧ t 8 = .int .i64 ((2 ^ j : Nat) : Int) ∧ ∃ (o : Nat) (R' : List (List (El 16))), t 9 = .int .i64 (o : Int) ∧ o ≤ 2 ^ k ∧ o % (2 * 2 ^ j) = 0 ∧ M R' w' ∧ R'.length = 2 ^ k ∧ (∀ i, i < 2 ^ k → (R'.getD i []).length = q) ∧
        ∀ c i, colf R' c i = if i < o then bfn j A (colf Rm c) i else colf Rm c i) (fun t _ => 2 ^ k - (toI (t 9)).toNat) ⟨by simp only [WS, List.getElem_cons_zero, List.getElem_cons_succ, Option.isNone_some, Option.isNone_none, List.getD_cons_zero, List.getD_cons_succ, I.at, atL, atO, atP, evp, evs, retV, ↓reduceIte, Nat.reduceEqDiff, reduceCtorEq]; exact t0, by simp only [WS, List.getElem_cons_zero, List.getElem_cons_succ, Option.isNone_some, Option.isNone_none, List.getD_cons_zero, List.getD_cons_succ, I.at, atL, atO, atP, evp, evs, retV, ↓reduceIte, Nat.reduceEqDiff, reduceCtorEq]; exact t1, by simp only [WS, List.getElem_cons_zero, List.getElem_cons_succ, Option.isNone_some, Option.isNone_none, List.getD_cons_zero, List.getD_cons_succ, I.at, atL, atO, atP, evp, evs, retV, ↓reduceIte, Nat.reduceEqDiff, reduceCtorEq]; exact t6, by simp only [WS, List.getElem_cons_zero, List.getElem_cons_succ, Option.isNone_some, Option.isNone_none, List.getD_cons_zero, List.getD_cons_succ, I.at, atL, atO, atP, evp, evs, retV, ↓reduceIte, Nat.reduceEqDiff, reduceCtorEq]; exact t7, by simp only [WS, List.getElem_cons_zero, List.getElem_cons_succ, Option.isNone_some, Option.isNone_none, List.getD_cons_zero, List.getD_cons_succ, I.at, atL, atO, atP, evp, evs, retV, ↓reduceIte, Nat.reduceEqDiff, reduceCtorEq]; exact t8, 0, Rm, rfl, by omega, by rw [Nat.zero_mod], hm, hml, hqm, fun c i => by rw [if_neg (by omega)]⟩ ?_
    clear t0 t1 t6 t7 t8 hm
    rintro t w3 ⟨t0, t1, t6, t7, t8, o, R1, t9, ho, hom, hm, hl1, hq1, hco⟩
    by_cases hlt : o < 2 ^ k
    · have hle := mod0_lt (by omega) hom hmk hlt
      simp (maxSteps := 1000000) (disch := omega) only [WS, List.getElem_cons_zero, List.getElem_cons_succ, Option.isNone_some, Option.isNone_none, List.getD_cons_zero, List.getD_cons_succ, I.at, atL, atO, atP, evp, evs, retV, ↓reduceIte, Nat.reduceEqDiff, reduceCtorEq, AS, t0, t1, t6, t7, t8, t9]
      refine X_call0 ((afft_skew_spec w3 j (A + o) (by omega) (by omega)).mono ?_)
      rintro _ w4 ⟨rfl, hB4⟩
      have hm := hM.up _ _ _ hm hB4
      clear hB4
      simp (maxSteps := 1000000) (disch := omega) only [WS, List.getElem_cons_zero, List.getElem_cons_succ, Option.isNone_some, Option.isNone_none, List.getD_cons_zero, List.getD_cons_succ, I.at, atL, atO, atP, evp, evs, retV, ↓reduceIte, Nat.reduceEqDiff, reduceCtorEq, AS, t0, t1, t6, t7, t8, t9]
      refine loop_of (fun t w' => t 0 = rows ∧ t 1 = .int .i64 (A : Int) ∧ t 6 = .int .i64 ((2 ^ k : Nat) : Int) ∧ t 7 = .int .i64 (j : Int) ∧ t 8 = .int .i64 ((2 ^ j : Nat) : Int) ∧ t 9 = .int .i64 (o : Int) ∧ t 10 = .int .u16 ((wel ((A + o) >>> j)).v.toNat : Int) ∧ ∃ (i : Nat) (R' : List (List (El 16))), t 11 = .int .i64 (i : Int) ∧ o ≤ i ∧ i ≤ o + 2 ^ j ∧ M R' w' ∧ R'.length = 2 ^ k ∧ (∀ i, i < 2 ^ k → (R'.getD i []).length = q) ∧
          ∀ c x, colf R' c x = if x < i ∨ (o + 2 ^ j ≤ x ∧ x < i + 2 ^ j) then bfn j A (colf Rm c) x else colf Rm c x) (fun t _ => o + 2 ^ j - (toI (t 11)).toNat)
        ⟨by simp only [WS, List.getElem_cons_zero, List.getElem_cons_succ, Option.isNone_some, Option.isNone_none, List.getD_cons_zero, List.getD_cons_succ, I.at, atL, atO, atP, evp, evs, retV, ↓reduceIte, Nat.reduceEqDiff, reduceCtorEq]; exact t0, by simp only [WS, List.getElem_cons_zero, List.getElem_cons_succ, Option.isNone_some, Option.isNone_none, List.getD_cons_zero, List.getD_cons_succ, I.at, atL, atO, atP, evp, evs, retV, ↓reduceIte, Nat.reduceEqDiff, reduceCtorEq]; exact t1, by simp only [WS, List.getElem_cons_zero, List.getElem_cons_succ, Option.isNone_some, Option.isNone_none, List.getD_cons_zero, List.getD_cons_succ, I.at, atL, atO, atP, evp, evs, retV, ↓reduceIte, Nat.reduceEqDiff, reduceCtorEq]; exact t6, by simp only [WS, List.getElem_cons_zero, List.getElem_cons_succ, Option.isNone_some, Option.isNone_none, List.getD_cons_zero, List.getD_cons_succ, I.at, atL, atO, atP, evp, evs, retV, ↓reduceIte, Nat.reduceEqDiff, reduceCtorEq]; exact t7, by simp only [WS, List.getElem_cons_zero, List.getElem_cons_succ, Option.isNone_some, Option.isNone_none, List.getD_cons_zero, List.getD_cons_succ, I.at, atL, atO, atP, evp, evs, retV, ↓reduceIte, Nat.reduceEqDiff, reduceCtorEq]; exact t8, by simp only [WS, List.getElem_cons_zero, List.getElem_cons_succ, Option.isNone_some, Option.isNone_none, List.getD_cons_zero, List.getD_cons_succ, I.at, atL, atO, atP, evp, evs, retV, ↓reduceIte, Nat.reduceEqDiff, reduceCtorEq]; exact t9, rfl, o, R1, by simp only [WS, List.getElem_cons_zero, List.getElem_cons_succ, Option.isNone_some, Option.isNone_none, List.getD_cons_zero, List.getD_cons_succ, I.at, atL, atO, atP, evp, evs, retV, ↓reduceIte, Nat.reduceEqDiff, reduceCtorEq], Nat.le_refl _, by omega, hm, hl1, hq1, fun c x => by
          rw [hco c x]
          by_cases hx : x < o
          · rw [if_pos hx, if_pos (Or.inl hx)]
          · rw [if_neg hx, if_neg (by omega)]⟩ ?_
      clear t0 t1 t6 t7 t8 t9 hm hco hq1 hl1
      rintro t w5 ⟨t0, t1, t6, t7, t8, t9, t10, i, R2, t11, hi1, hi2, hm, hl2, hq2, hco⟩
      by_cases hil : i < o + 2 ^ j
      · have hih : i < hs.length := by omega
        have hih2 : i + 2 ^ j < hs.length := by omega
        simp (maxSteps := 1000000) (disch := omega) only [WS, List.getElem_cons_zero, List.getElem_cons_succ, Option.isNone_some, Option.isNone_none, List.getD_cons_zero, List.getD_cons_succ, I.at, atL, atO, atP, evp, evs, retV, ↓reduceIte, Nat.reduceEqDiff, reduceCtorEq, AS, t0, t1, t6, t7, t8, t9, t10, t11]
        refine WP_dops ?_
        have hmd := hM.up _ _ _ hm (bel_drew w5)
        have hsd := (hM.hd _ _ hmd).1
        simp (maxSteps := 1000000) (disch := omega) only [ES, List.mem_cons, List.not_mem_nil, implies_true, forall_const, WS, List.getElem_cons_zero, List.getElem_cons_succ, Option.isNone_some, Option.isNone_none, List.getD_cons_zero, List.getD_cons_succ, I.at, atL, atO, atP, evp, evs, retV, ↓reduceIte, Nat.reduceEqDiff, reduceCtorEq, AS, t0, t1, t6, t7, t8, t9, t10, t11, hsd.Eix hih, hsd.Eld hih, hsd.Eix hih2, hsd.Eld hih2]
        have W1 : ∀ b, Wr (fun a w => M ((R2.set i a).set (i + 2 ^ j) b) w) (Cell.v hs[i]) := fun b => by
          have := hM.wr (R2.set (i + 2 ^ j) b) i hih (by rw [List.length_set]; omega)
          refine this.iff fun a w => ?_
          rw [List.set_comm _ _ (show i ≠ i + 2 ^ j by omega)]
        have W2 : ∀ a, Wr (fun b w => M ((R2.set i a).set (i + 2 ^ j) b) w) (Cell.v hs[i + 2 ^ j]) := fun a => hM.wr (R2.set i a) (i + 2 ^ j) hih2 (by rw [List.length_set]; omega)
        have hself : M ((R2.set i (R2.getD i [])).set (i + 2 ^ j) (R2.getD (i + 2 ^ j) [])) w5.drew := by
          rw [set_getD R2 (by omega), set_getD R2 (by omega)]; exact hmd
        refine E_call0 ((afft_forward_spec (M := fun a b w => M ((R2.set i a).set (i + 2 ^ j) b) w) (wel ((A + o) >>> j)) _ _ (R2.getD i []) (R2.getD (i + 2 ^ j) []) w5.drew W1 W2 hself (by rw [hq2 i (by omega), hq2 (i + 2 ^ j) (by omega)]) (by rw [hq2 i (by omega)]; exact hq46)).mono ?_)
        rintro _ w6 ⟨rfl, x', y', hm6, lx', ly', hx', hy'⟩
        simp (maxSteps := 1000000) (disch := omega) only [ES, List.mem_cons, List.not_mem_nil, implies_true, forall_const, WS, List.getElem_cons_zero, List.getElem_cons_succ, Option.isNone_some, Option.isNone_none, List.getD_cons_zero, List.getD_cons_succ, I.at, atL, atO, atP, evp, evs, retV, ↓reduceIte, Nat.reduceEqDiff, reduceCtorEq, AS, t0, t1, t6, t7, t8, t9, t10, t11]
        have s1 : i < R2.length := by omega
        have s2 : i + 2 ^ j < (R2.set i x').length := by rw [List.length_set]; omega
        refine ⟨⟨i + 1, _, rfl, by omega, by omega, hm6, by simp [hl2], fun x hx => ?_, fun c x => ?_⟩, by omega⟩
        · rw [getD_set _ s2, getD_set _ s1]
          by_cases e1 : x = i + 2 ^ j
          · rw [if_pos e1, ly']; exact hq2 _ (by omega)
          · rw [if_neg e1]
            by_cases e2 : x = i
            · rw [if_pos e2, lx']; exact hq2 _ (by omega)
            · rw [if_neg e2]; exact hq2 x hx
        · have g1 : (co (R2.getD i [])).c c = colf Rm c i := by have := hco c i; rw [if_neg (by omega)] at this; exact this
          have g2 : (co (R2.getD (i + 2 ^ j) [])).c c = colf Rm c (i + 2 ^ j) := by have := hco c (i + 2 ^ j); rw [if_neg (by omega)] at this; exact this
          rw [colf_set _ s2, colf_set _ s1]
          by_cases e1 : x = i + 2 ^ j
          · subst e1
            rw [if_pos rfl, if_pos (Or.inr ⟨by omega, by omega⟩), bfn_piece hom _ (by omega) (by omega), if_neg (by omega), hy', g1, g2, Nat.add_sub_cancel]
          · rw [if_neg e1]
            by_cases e2 : x = i
            · subst e2
              rw [if_pos rfl, if_pos (Or.inl (by omega)), bfn_piece hom _ (by omega) (by omega), if_pos (by omega), hx', g1, g2]
            · rw [if_neg e2, hco c x]
              by_cases e3 : x < i ∨ (o + 2 ^ j ≤ x ∧ x < i + 2 ^ j)
              · rw [if_pos e3, if_pos (by omega)]
              · rw [if_neg e3, if_neg (by omega)]
      · obtain rfl : i = o + 2 ^ j := by omega
        simp (maxSteps := 1000000) (disch := omega) only [WS, List.getElem_cons_zero, List.getElem_cons_succ, Option.isNone_some, Option.isNone_none, List.getD_cons_zero, List.getD_cons_succ, I.at, atL, atO, atP, evp, evs, retV, ↓reduceIte, Nat.reduceEqDiff, reduceCtorEq, AS, t0, t1, t6, t7, t8, t9, t10, t11]
        refine ⟨⟨o + 2 * 2 ^ j, R2, rfl, by omega, by rw [Nat.add_mod, hom, Nat.zero_add, Nat.mod_self, Nat.zero_mod], hm, hl2, hq2, fun c x => ?_⟩, by omega⟩
        rw [hco c x]
        by_cases hx : x < o + 2 * 2 ^ j
        · rw [if_pos hx, if_pos (by omega)]
        · rw [if_neg hx, if_neg (by omega)]
    · obtain rfl : o = 2 ^ k := by omega
      have e2 : IntKind.i64.wrap (((2 ^ j : Nat) : Int).tdiv 2) = ((2 ^ j / 2 : Nat) : Int) := by rw [show (2 : Int) = ((2 : Nat) : Int) from rfl, tdiv_nat, wrap_64 _ (by omega)]
      have e1 : IntKind.i64.wrap ((j : Int) - 1) = (j : Int) - 1 := wrap_id (by omega) (by omega)
      simp (maxSteps := 1000000) (disch := omega) only [WS, List.getElem_cons_zero, List.getElem_cons_succ, Option.isNone_some, Option.isNone_none, List.getD_cons_zero, List.getD_cons_succ, I.at, atL, atO, atP, evp, evs, retV, ↓reduceIte, Nat.reduceEqDiff, reduceCtorEq, decide_eq_false, t0, t1, t6, t7, t8, t9, X_quo, e1, e2, show ((2 : Int) ≠ 0) = True from eq_true (by decide), toI_int]
      refine ⟨⟨j, R1, rfl, rfl, by omega, hm, hl1, hq1, fun c i hi => ?_⟩, by omega⟩
      rw [← hit c i hi]
      exact itF_loc (n := 2 ^ k) (Nat.mod_eq_zero_of_dvd (Nat.pow_dvd_pow 2 (show j ≤ k by omega))) (fun i hi => by rw [hco c i, if_pos hi]) i hi
end Go.Proofs.Ytpmfeaajpjjfiaa.Fw
