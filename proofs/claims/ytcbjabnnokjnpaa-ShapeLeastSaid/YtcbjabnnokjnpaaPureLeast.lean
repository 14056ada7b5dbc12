/- The length is enough, and no shorter one is. -/
import Derived.Test.YtcbjabnnokjnpaaPureA
import Derived.Test.YtcbjabnnokjnpaaPureLim
set_option linter.unusedVariables false
namespace Go.Proofs.Ytcbjabnnokjnpaa.Pure
open Go.RowKit Go.Proofs.Ytcbjabnnokjnpaa.PA Go.Proofs.YtcbjabnnokjnpaaW.PrintWords Go.Proofs.YtcbjabnnokjnpaaW.PrintLast Go.Proofs.YtcbjabnnokjnpaaW.PrintMore

theorem len_facts {f k n : Int} (h1 : 1 ≤ k) (h2 : k ≤ 65536) (h3 : 1 ≤ n) (h4 : n ≤ 1099511627776) :
    1 ≤ len f k n ∧ len f k n ≤ 1099511693313 ∧ n ≤ k * len f k n ∧ k * len f k n ≤ n + 2 * k ∧ (f = 2 → len f k n % 2 = 0 ∧ k * (len f k n - 2) < n ∧ -131072 ≤ k * (len f k n - 2)) ∧ (f ≠ 2 → k * (len f k n - 1) < n ∧ -131072 ≤ k * (len f k n - 1)) := by
  have e := Int.mul_ediv_add_emod (n + k - 1) k
  have m0 := Int.emod_nonneg (n + k - 1) (b := k) (by omega)
  have m1 := Int.emod_lt_of_pos (n + k - 1) (b := k) (by omega)
  have q1 : 1 ≤ (n + k - 1) / k := (Int.le_ediv_iff_mul_le (by omega)).2 (by omega)
  have q2 : (n + k - 1) / k ≤ n + k - 1 := Int.ediv_le_self _ (by omega)
  unfold len
  generalize (n + k - 1) / k = q at *
  have x1 : k * (q + 1) = k * q + k := by rw [Int.mul_add]; omega
  have x2 : k * (q + 1 - 2) = k * q - k := by rw [show q + 1 - 2 = q - 1 by omega, Int.mul_sub]; omega
  have x3 : k * (q - 2) = k * q - 2 * k := by rw [Int.mul_sub]; omega
  have x4 : k * (q - 1) = k * q - k := by rw [Int.mul_sub]; omega
  split
  · rename_i hh
    exact ⟨by omega, by omega, by omega, by omega, fun _ => ⟨by omega, by omega, by omega⟩, fun h => absurd hh.1 h⟩
  · rename_i hh
    exact ⟨by omega, by omega, by omega, by omega, fun h => ⟨by omega, by omega, by omega⟩, fun h => ⟨by omega, by omega⟩⟩

theorem ShapeLeast (a0_0 a0_1 a0_2 a1 : Int) (w0 : (Lit.int .i64 a0_0).wf = true) (w1 : (Lit.int .i64 a0_1).wf = true) (w2 : (Lit.int .i64 a0_2).wf = true) (w3 : (Lit.int .i64 a1).wf = true) :
    ∃ k, culletlaw16_ShapeLeast.f k a0_0 a0_1 a0_2 a1 = some true := by
  refine Ev.rounds ?_
  refine ev_bind (g := fun n => culletlaw16_awake.f n) (fun n => by unfold culletlaw16_ShapeLeast.f; rfl) awake_ev ?_
  simp only [if_true]
  refine Ev.bind (length_ev a0_0 a0_1 a0_2 a1) ?_
  refine Ev.bind (params_ev a0_0 a0_1 a0_2) (ev_const fun n => ?_)
  unfold lenE
  by_cases hp : par a0_0 a0_1 a0_2 = 0
  · obtain ⟨h1, h2, h3, h4, h5, h6, h7⟩ := par_ok hp
    rw [if_pos hp, if_pos hp]
    by_cases ha : a1 < 1
    · simp [if_pos ha]
    · by_cases hb : a1 > 1099511627776
      · simp [if_neg ha, if_pos hb]
      · rw [if_neg ha, if_neg hb, if_neg ha, if_neg (show ¬ 1099511627776 < a1 from hb)]
        obtain ⟨l1, l2, l3, l4, l5, l6⟩ := len_facts (f := a0_0) (k := a0_1) (n := a1) (by omega) (by omega) (by omega) (by omega)
        simp only [if_true]
        rw [w64 (n := a0_1 * len a0_0 a0_1 a1) (by omega) (by omega)]
        by_cases h2 : a0_0 = 2
        · obtain ⟨l7, l8, l9⟩ := l5 h2
          rw [if_pos h2, if_pos (by omega), if_pos (by omega), if_pos (by rw [Int.tmod_eq_emod_of_nonneg (by omega)]; exact l7), if_pos (by omega), w64 (n := len a0_0 a0_1 a1 - 2) (by omega) (by omega), w64 (by omega) (by omega)]
          simp; omega
        · obtain ⟨l7, l8⟩ := l6 h2
          rw [if_neg h2, if_pos (by omega), if_pos (by omega), if_pos (by omega), w64 (n := len a0_0 a0_1 a1 - 1) (by omega) (by omega), w64 (by omega) (by omega)]
          simp; omega
  · rw [if_neg hp, if_neg hp]
    simp
end Go.Proofs.Ytcbjabnnokjnpaa.Pure
