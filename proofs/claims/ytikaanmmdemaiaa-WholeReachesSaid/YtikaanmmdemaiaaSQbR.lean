import Derived.Test.YtikaanmmdemaiaaProg
import Derived.Test.YtikaanmmdemaiaaFwTR
import Derived.Test.YtikaanmmdemaiaaSQaR
import Derived.Test.YtikaanmmdemaiaaGfWR
import Derived.Test.YtikaanmmdemaiaaGfNR
set_option linter.all false
set_option linter.unusedVariables false
set_option linter.unusedSimpArgs false
set_option maxRecDepth 100000
set_option maxHeartbeats 1000000
namespace Go.Proofs.Ytikaanmmdemaiaa.Fw
open Go Go.Fw Go.Proofs
attribute [local irreducible] stepI

end Go.Proofs.Ytikaanmmdemaiaa.Fw
namespace Go.Proofs.Ytikaanmmdemaiaa.Fw
open Go Go.Fw
theorem evX_ext {k n : Nat} {f g : Nat → El 16} {x : El 16} (h : ∀ i, i < n → f i = g i) : evX k n f x = evX k n g x := by
  unfold evX
  exact esum_congr fun j hj => by rw [h j hj]
theorem evX_more {k n m : Nat} {f : Nat → El 16} {x : El 16} (h : ∀ i, n ≤ i → f i = 0) (hm : n ≤ m) : evX k m f x = evX k n f x := by
  obtain ⟨e, rfl⟩ : ∃ e, m = n + e := ⟨m - n, by omega⟩
  unfold evX
  rw [esum_append, esum_zero (n := e) (fun i _ => by rw [h _ (by omega), El.zero_mul]), El.add_zero]
theorem evX_k {k e n : Nat} {f : Nat → El 16} {x : El 16} (h : n ≤ 2 ^ k) : evX (k + e) n f x = evX k n f x := by
  unfold evX
  exact esum_congr fun j hj => by rw [xV_more k e j x (by omega)]
end Go.Proofs.Ytikaanmmdemaiaa.Fw
