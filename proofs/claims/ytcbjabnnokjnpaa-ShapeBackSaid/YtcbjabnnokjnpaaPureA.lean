/- Plain law of layer 16: what Pow2, Params and Length tell, in whole numbers. -/
import Derived.OpenShut
import Derived.Test.YtcbjabnnokjnpaaPAx0
set_option linter.unusedVariables false
namespace Go.Proofs.Ytcbjabnnokjnpaa.Pure
open Go.RowKit Go.Proofs.Ytcbjabnnokjnpaa.PA Go.Proofs.YtcbjabnnokjnpaaW.PrintWords Go.Proofs.YtcbjabnnokjnpaaW.PrintLast Go.Proofs.YtcbjabnnokjnpaaW.PrintMore

theorem w64 {n : Int} (h0 : -9223372036854775808 ≤ n) (h1 : n ≤ 9223372036854775807) : wrap64 n = n := by unfold wrap64; omega
theorem ev_mk {α : Type} {g : Nat → Option α} {r : α} (K : Nat) (h : ∀ k, K ≤ k → g k = some r) : Ev g r := ⟨K, h⟩
theorem ev_const {α : Type} {g : Nat → Option α} {r : α} (h : ∀ k, g k = some r) : Ev g r := ⟨0, fun k _ => h k⟩
theorem ev_eq {α : Type} {g : Nat → Option α} {r q : α} (h : Ev g r) (e : r = q) : Ev g q := e ▸ h
theorem ev_uniq {α : Type} {g : Nat → Option α} {r q : α} (h : Ev g r) (h' : Ev g q) : r = q := by
  obtain ⟨K, h⟩ := h; obtain ⟨K', h'⟩ := h'
  have a := h (max K K') (Nat.le_max_left _ _); have b := h' (max K K') (Nat.le_max_right _ _)
  rw [a] at b; exact Option.some.inj b
theorem ev_bind {α β : Type} {g : Nat → Option α} {f : Nat → α → Option β} {a : α} {r : β} {F : Nat → Option β} (hF : ∀ k, F k = (g k).bind (f k)) (h : Ev g a) (k : Ev (fun n => f n a) r) : Ev F r :=
  Ev.congr hF (Ev.bind h k)
theorem ev_step {α : Type} {g f : Nat → Option α} {r : α} (h : ∀ k, g (k + 1) = f k) (k : Ev f r) : Ev g r := Ev.step h k
theorem ite_some {α : Type} {c : Prop} [Decidable c] (a b : α) : (if c then some a else some b) = some (if c then a else b) := by split <;> rfl

/-- The least power of two that is n or more, for n up to 65536. -/
def p2 (n : Int) : Int := if 1 < n then (if 2 < n then (if 4 < n then (if 8 < n then (if 16 < n then (if 32 < n then (if 64 < n then (if 128 < n then (if 256 < n then (if 512 < n then (if 1024 < n then (if 2048 < n then (if 4096 < n then (if 8192 < n then (if 16384 < n then (if 32768 < n then (65536) else 32768) else 16384) else 8192) else 4096) else 2048) else 1024) else 512) else 256) else 128) else 64) else 32) else 16) else 8) else 4) else 2) else 1
theorem pow2_ev (n : Int) (hn : n ≤ 65536) : Ev (fun k => shape_pow2.f k n) (p2 n) := by
  refine ev_mk 18 fun k hk => ?_
  obtain ⟨m, rfl⟩ : ∃ m, k = m + 18 := ⟨k - 18, by omega⟩
  have step : ∀ m x, shape_pow2.l0 (m + 1) n x = if x < n then shape_pow2.l0 m n (wrap64 (x * 2)) else some x := fun _ _ => rfl
  unfold shape_pow2.f
  simp only [step, show wrap64 (1 * 2) = 2 from by decide +kernel, show wrap64 (2 * 2) = 4 from by decide +kernel, show wrap64 (4 * 2) = 8 from by decide +kernel, show wrap64 (8 * 2) = 16 from by decide +kernel, show wrap64 (16 * 2) = 32 from by decide +kernel, show wrap64 (32 * 2) = 64 from by decide +kernel, show wrap64 (64 * 2) = 128 from by decide +kernel, show wrap64 (128 * 2) = 256 from by decide +kernel, show wrap64 (256 * 2) = 512 from by decide +kernel, show wrap64 (512 * 2) = 1024 from by decide +kernel, show wrap64 (1024 * 2) = 2048 from by decide +kernel, show wrap64 (2048 * 2) = 4096 from by decide +kernel, show wrap64 (4096 * 2) = 8192 from by decide +kernel, show wrap64 (8192 * 2) = 16384 from by decide +kernel, show wrap64 (16384 * 2) = 32768 from by decide +kernel, show wrap64 (32768 * 2) = 65536 from by decide +kernel, if_neg (show ¬ (65536 : Int) < n by omega), ite_some]
  rfl
theorem p2_is (n : Int) : p2 n = 1 ∨ p2 n = 2 ∨ p2 n = 4 ∨ p2 n = 8 ∨ p2 n = 16 ∨ p2 n = 32 ∨ p2 n = 64 ∨ p2 n = 128 ∨ p2 n = 256 ∨ p2 n = 512 ∨ p2 n = 1024 ∨ p2 n = 2048 ∨ p2 n = 4096 ∨ p2 n = 8192 ∨ p2 n = 16384 ∨ p2 n = 32768 ∨ p2 n = 65536 := by
  unfold p2
  repeat (first | (split) | omega)
theorem p2_ge {n : Int} (hn : n ≤ 65536) : n ≤ p2 n := by
  unfold p2
  repeat (first | (split) | omega)
theorem p2_lt {n : Int} (hn : 1 < n) (h2 : n ≤ 65536) : p2 n < 2 * n := by
  unfold p2
  repeat (first | (split) | omega)
theorem p2_one {n : Int} (hn : n ≤ 1) : p2 n = 1 := by unfold p2; rw [if_neg (by omega)]
theorem p2_pos (n : Int) : 1 ≤ p2 n := by rcases p2_is n with h | h | h | h | h | h | h | h | h | h | h | h | h | h | h | h | h <;> omega
theorem p2_mono {n m : Int} (h : n ≤ m) (hm : m ≤ 65536) : p2 n ≤ p2 m := by
  by_cases h1 : n ≤ 1
  · rw [p2_one h1]; exact p2_pos m
  · have a := p2_lt (n := n) (by omega) (by omega); have b := p2_ge hm; have c := p2_is n; have d := p2_is m
    omega

/-! parameters -/
theorem family_val (f : Int) : shape_family.f f = some (decide (0 ≤ f ∧ f ≤ 2)) := by
  unfold shape_family.f
  by_cases h : f ≥ 0
  · rw [if_pos h]; congr 1; by_cases h2 : f ≤ 2 <;> simp [h2] <;> omega
  · rw [if_neg h]; congr 1; symm; simp; omega
def par (f k m : Int) : Int :=
  if f < 0 ∨ 2 < f then 2 else if k < 1 ∨ m < 1 ∨ 65536 < k ∨ 65536 < m then 4 else if f ≠ 2 then (if 256 < k + m then 4 else 0) else (if 65536 < k + p2 m then 4 else 0)
theorem params_ev (f k m : Int) : Ev (fun n => shape_Params.f n f k m) (par f k m) := by
  unfold par
  refine ev_bind (g := fun _ => shape_family.f f) (fun n => by unfold shape_Params.f; rfl) (ev_const fun _ => family_val f) ?_
  by_cases hf : f < 0 ∨ 2 < f
  · rw [if_pos hf]
    refine ev_const fun n => ?_
    rw [if_neg (by simp; omega)]
  · rw [if_neg hf]
    have h1 : decide (0 ≤ f ∧ f ≤ 2) = true := by simp; omega
    by_cases hb : k < 1 ∨ m < 1 ∨ 65536 < k ∨ 65536 < m
    · rw [if_pos hb]
      refine Ev.step (f := fun n => some 4) (fun n => ?_) (Ev.now _)
      rw [if_pos h1]
      have j0 : shape_Params.j0 (n + 1) f k m true = some 4 := by simp [shape_Params.j0]
      by_cases a : k < 1
      · rw [if_pos a]; exact j0
      · rw [if_neg a]
        by_cases b : m < 1
        · rw [if_pos b]; exact j0
        · rw [if_neg b]
          by_cases c : k > 65536
          · rw [if_pos c]; exact j0
          · rw [if_neg c, show decide (m > 65536) = true by simp; omega]; exact j0
    · rw [if_neg hb]
      have e : (fun n => if decide (0 ≤ f ∧ f ≤ 2) = true then (if k < 1 then (shape_Params.j0 n f k m true) else (if m < 1 then (shape_Params.j0 n f k m true) else (if k > 65536 then (shape_Params.j0 n f k m true) else (shape_Params.j0 n f k m (decide (m > 65536)))))) else some 2) = fun n => shape_Params.j0 n f k m false := by
        funext n
        rw [if_pos h1, if_neg (by omega), if_neg (by omega), if_neg (by omega), show decide (m > 65536) = false by simp; omega]
      show Ev (fun n => if decide (0 ≤ f ∧ f ≤ 2) = true then (if k < 1 then (shape_Params.j0 n f k m true) else (if m < 1 then (shape_Params.j0 n f k m true) else (if k > 65536 then (shape_Params.j0 n f k m true) else (shape_Params.j0 n f k m (decide (m > 65536)))))) else some 2) _
      rw [e]
      by_cases h2 : f ≠ 2
      · rw [if_pos h2]
        refine Ev.step (f := fun n => shape_Params.j1 n f k m (decide (wrap64 (k + m) > 256))) (fun n => by simp only [shape_Params.j0]; rw [if_neg (by simp), if_neg h2]) ?_
        rw [w64 (by omega) (by omega)]
        refine Ev.step (f := fun n => some (if 256 < k + m then 4 else 0)) (fun n => ?_) (Ev.now _)
        simp only [shape_Params.j1]
        by_cases h3 : 256 < k + m
        · rw [if_pos (by simpa using h3), if_pos h3]
        · rw [if_neg (by simpa using h3), if_neg h2, if_neg h3]
      · rw [if_neg h2]
        have h2' : f = 2 := by omega
        refine Ev.step (f := fun n => shape_Params.j1 n f k m false) (fun n => by simp only [shape_Params.j0]; rw [if_neg (by simp), if_pos h2']) ?_
        refine Ev.step (f := fun n => (shape_pow2.f n m).bind fun t => (if (wrap64 (k + t)) > 65536 then (some 4) else (some 0))) (fun n => by simp only [shape_Params.j1]; rw [if_neg (by simp), if_pos h2']) ?_
        refine Ev.bind (pow2_ev m (by omega)) (ev_const fun n => ?_)
        have := p2_is m
        rw [w64 (by omega) (by omega), ite_some]

theorem par_cases {f k m : Int} (hf : ¬ (f < 0 ∨ 2 < f)) : par f k m = 0 ∨ par f k m = 4 := by
  unfold par
  rw [if_neg hf]
  split
  · exact .inr rfl
  · split
    · split
      · exact .inr rfl
      · exact .inl rfl
    · split
      · exact .inr rfl
      · exact .inl rfl
theorem par_iff {f k m : Int} (hf : ¬ (f < 0 ∨ 2 < f)) : par f k m = 0 ↔ 1 ≤ k ∧ 1 ≤ m ∧ k ≤ 65536 ∧ m ≤ 65536 ∧ (f ≠ 2 → k + m ≤ 256) ∧ (f = 2 → k + p2 m ≤ 65536) := by
  unfold par
  rw [if_neg hf]
  split
  · omega
  · split
    · split <;> omega
    · split <;> omega

/-! lengths -/
def len (f k n : Int) : Int := if f = 2 ∧ (n + k - 1) / k % 2 = 1 then (n + k - 1) / k + 1 else (n + k - 1) / k
def lenE (f k m n : Int) : Int × Int := if par f k m = 0 then (if n < 1 then (0, 163) else if 1099511627776 < n then (0, 5) else (len f k n, 0)) else (0, par f k m)
theorem par_ok {f k m : Int} (h : par f k m = 0) : 0 ≤ f ∧ f ≤ 2 ∧ 1 ≤ k ∧ 1 ≤ m ∧ k ≤ 65536 ∧ m ≤ 65536 ∧ k + m ≤ 65536 := by
  unfold par at h
  split at h
  · omega
  · split at h
    · omega
    · have := p2_ge (n := m)
      split at h
      · split at h <;> omega
      · split at h <;> omega
theorem length_ev (f k m n : Int) : Ev (fun q => shape_Length.f q f k m n) (lenE f k m n) := by
  unfold lenE
  refine ev_bind (g := fun q => shape_Params.f q f k m) (fun q => by unfold shape_Length.f; rfl) (params_ev f k m) (ev_const fun q => ?_)
  by_cases hp : par f k m = 0
  · rw [if_pos hp, if_pos hp]
    obtain ⟨h1, h2, h3, h4, h5, h6, h7⟩ := par_ok hp
    by_cases ha : n < 1
    · rw [if_pos ha, if_pos ha]
    · rw [if_neg ha, if_neg ha]
      by_cases hb : n > 1099511627776
      · rw [if_pos hb, if_pos hb]
      · rw [if_neg hb, if_neg hb, if_neg (by omega)]
        have hq0 : 0 ≤ (n + k - 1) / k := Int.ediv_nonneg (by omega) (by omega)
        have hq1 : (n + k - 1) / k ≤ n + k - 1 := Int.ediv_le_self _ (by omega)
        rw [w64 (n := n + k) (by omega) (by omega), w64 (n := n + k - 1) (by omega) (by omega), Int.tdiv_eq_ediv_of_nonneg (by omega), w64 (n := (n + k - 1) / k) (by omega) (by omega)]
        unfold shape_odd.f len
        rw [Int.tmod_eq_emod_of_nonneg hq0]
        by_cases hf : f = 2
        · rw [if_pos hf]
          by_cases ho : (n + k - 1) / k % 2 = 1
          · simp [hf, ho]
            exact w64 (by omega) (by omega)
          · simp [hf, ho]
        · rw [if_neg hf]
          simp [hf]
  · rw [if_neg hp, if_neg hp]
theorem len_facts {f k n : Int} (h1 : 1 ≤ k) (h2 : k ≤ 65536) (h3 : 1 ≤ n) (h4 : n ≤ 1099511627776) :
    1 ≤ len f k n ∧ len f k n ≤ 1099511693313 ∧ n ≤ k * len f k n ∧ k * len f k n ≤ n + 2 * k ∧ (f = 2 → len f k n % 2 = 0 ∧ k * (len f k n - 2) < n ∧ -131072 ≤ k * (len f k n - 2)) ∧ (f ≠ 2 → k * (len f k n - 1) < n ∧ -131072 ≤ k * (len f k n - 1)) := by
  have e := Int.mul_ediv_add_emod (n + k - 1) k
  have m0 := Int.emod_nonneg (n + k - 1) (b := k) (by omega)
  have m1 := Int.emod_lt_of_pos (n + k - 1) (b := k) (by omega)
  have q1 : 1 ≤ (n + k - 1) / k := (Int.le_ediv_iff_mul_le (by omega)).2 (by omega)
  have q2 : (n + k - 1) / k ≤ n + k - 1 := Int.ediv_le_self _ (by omega)
  unfold len
  generalize (n + k - 1) / k = q at *
  have x1 : k * (q + 1) = k * q + k := by rw [Int.mul_add]; omega
  have x2 : k * (q + 1 - 2) = k * q - k := by rw [show q + 1 - 2 = q - 1 by omega, Int.mul_sub]; omega
  have x3 : k * (q - 2) = k * q - 2 * k := by rw [Int.mul_sub]; omega
  have x4 : k * (q - 1) = k * q - k := by rw [Int.mul_sub]; omega
  split
  · rename_i hh
    exact ⟨by omega, by omega, by omega, by omega, fun _ => ⟨by omega, by omega, by omega⟩, fun h => absurd hh.1 h⟩
  · rename_i hh
    exact ⟨by omega, by omega, by omega, by omega, fun h => ⟨by omega, by omega, by omega⟩, fun h => ⟨by omega, by omega⟩⟩

theorem awake_ev : Ev (fun k => culletlaw16_awake.f k) true := Ev.of (fun k => culletlaw16_awake.mono k) (k := 60) (by decide +kernel)
end Go.Proofs.Ytcbjabnnokjnpaa.Pure
