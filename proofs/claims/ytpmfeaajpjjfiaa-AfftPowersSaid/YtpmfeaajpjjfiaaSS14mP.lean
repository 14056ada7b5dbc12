import Derived.Test.YtpmfeaajpjjfiaaProg
import Derived.Test.YtpmfeaajpjjfiaaFwTP
import Derived.Test.YtpmfeaajpjjfiaaSS14lP
set_option linter.all false
set_option linter.unusedVariables false
set_option linter.unusedSimpArgs false
set_option maxRecDepth 100000
set_option maxHeartbeats 1000000
namespace Go.Proofs.Ytpmfeaajpjjfiaa.Fw
open Go Go.Fw Go.Proofs
attribute [local irreducible] stepI
end Go.Proofs.Ytpmfeaajpjjfiaa.Fw
namespace Go.Proofs.Ytpmfeaajpjjfiaa.Fw
open Go Go.Fw
theorem cut_any {w : World} {s : Value} {l : List (El 16)} {m : Nat} (h : Sl w s l) (hm : 1 ≤ m) (hm2 : m ≤ 65536) :
    CallV Try.prog 15 [s, .int .i64 (m : Int)] w fun v w' => w' = w ∧ ∃ n, Sl w v (l.take n) ∧ n ≤ l.length ∧ n ≤ m ∧ ((n = 0 ∧ l.length = 0) ∨ ∃ k, k ≤ 16 ∧ n = 2 ^ k) := by
  refine (culletlaw14_cut_spec w s l m h hm hm2).mono ?_
  rintro v w' ⟨rfl, ⟨h0, rfl⟩ | ⟨k, hk, hkl, hkm, rfl⟩⟩
  · have : l = [] := List.eq_nil_of_length_eq_zero h0
    subst this
    exact ⟨rfl, 0, h, by omega, by omega, Or.inl ⟨rfl, rfl⟩⟩
  · have := h.sub (Nat.zero_le (2 ^ k)) hkl
    rw [List.drop_zero] at this
    exact ⟨rfl, 2 ^ k, this, hkl, hkm, Or.inr ⟨k, hk, rfl⟩⟩
end Go.Proofs.Ytpmfeaajpjjfiaa.Fw
