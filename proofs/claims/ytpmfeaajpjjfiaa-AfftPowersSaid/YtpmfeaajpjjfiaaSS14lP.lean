import Derived.Test.YtpmfeaajpjjfiaaProg
import Derived.Test.YtpmfeaajpjjfiaaFwTP
import Derived.Test.YtpmfeaajpjjfiaaSS14kP
set_option linter.all false
set_option linter.unusedVariables false
set_option linter.unusedSimpArgs false
set_option maxRecDepth 100000
set_option maxHeartbeats 1000000
namespace Go.Proofs.Ytpmfeaajpjjfiaa.Fw
open Go Go.Fw Go.Proofs
attribute [local irreducible] stepI
end Go.Proofs.Ytpmfeaajpjjfiaa.Fw
namespace Go.Proofs.Ytpmfeaajpjjfiaa.Fw
open Go Go.Fw
theorem fwd_any {w : World} {s : Value} {l : List (El 16)} {a k : Nat} (h : Sl w s l) (hl : l.length = 2 ^ k) (hk : k ≤ 16) (hc : isC (a : Int) (2 ^ k) (2 ^ k) = true) :
    CallV Try.prog 18 [s, .int .i64 (a : Int)] w fun v w' => ∃ sv m, v = .tuple #[sv, .int .i64 0] ∧ Ow w.heap.size w' sv m ∧ m.length = 2 ^ k ∧ (∀ i, i < 2 ^ k → (co m).c i = itF a k (co l).c i) ∧ RowKit.Below w.heap.size w w' := by
  have hp := pow_le16 hk
  refine (afft_Forward_spec w s l a h (by omega)).mono ?_
  rintro _ w' ⟨hB, ⟨k', hk', hlk', -, sv, m, rfl, om, lm, hm⟩ | ⟨hbad, -⟩ | ⟨-, hbad, -⟩⟩
  · obtain rfl : k' = k := pow2_inj (by omega)
    rw [Int.toNat_natCast] at hm
    exact ⟨sv, m, rfl, om, by omega, hm, hB⟩
  · rw [hl, (isP_iff _).2 ⟨k, hk, rfl⟩] at hbad; cases hbad
  · rw [hl, hc] at hbad; cases hbad
theorem inv_any {w : World} {s : Value} {l : List (El 16)} {a k : Nat} (h : Sl w s l) (hl : l.length = 2 ^ k) (hk : k ≤ 16) (hc : isC (a : Int) (2 ^ k) (2 ^ k) = true) :
    CallV Try.prog 17 [s, .int .i64 (a : Int)] w fun v w' => ∃ sv m, v = .tuple #[sv, .int .i64 0] ∧ Ow w.heap.size w' sv m ∧ m.length = 2 ^ k ∧ (∀ i, i < 2 ^ k → (co m).c i = itI a k (co l).c i) ∧ RowKit.Below w.heap.size w w' := by
  have hp := pow_le16 hk
  refine (afft_Inverse_spec w s l a h (by omega)).mono ?_
  rintro _ w' ⟨hB, ⟨k', hk', hlk', -, sv, m, rfl, om, lm, hm⟩ | ⟨hbad, -⟩ | ⟨-, hbad, -⟩⟩
  · obtain rfl : k' = k := pow2_inj (by omega)
    rw [Int.toNat_natCast] at hm
    exact ⟨sv, m, rfl, om, by omega, hm, hB⟩
  · rw [hl, (isP_iff _).2 ⟨k, hk, rfl⟩] at hbad; cases hbad
  · rw [hl, hc] at hbad; cases hbad
theorem isC_of {s k : Nat} (h1 : s % 2 ^ k = 0) (h2 : s + 2 ^ k ≤ 65536) : isC (s : Int) (2 ^ k) (2 ^ k) = true := by
  unfold isC
  exact decide_eq_true ⟨by omega, by omega, by omega, by rw [Int.toNat_natCast]; exact h1⟩
theorem co_eq {m l : List (El 16)} {n : Nat} (hm : m.length = n) (hl : l.length = n) (h : ∀ i, i < n → (co m).c i = (co l).c i) : m = l := by
  rw [list_co hm h]
  exact (list_co hl (fun i _ => rfl)).symm
end Go.Proofs.Ytpmfeaajpjjfiaa.Fw
