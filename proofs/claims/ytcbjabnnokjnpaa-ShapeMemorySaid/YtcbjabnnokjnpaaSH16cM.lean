import Derived.Test.YtcbjabnnokjnpaaProg
import Derived.Test.YtcbjabnnokjnpaaFwTM
import Derived.Test.YtcbjabnnokjnpaaSH16bM
import Derived.Test.YtcbjabnnokjnpaaSPx0M
set_option linter.all false
set_option linter.unusedVariables false
set_option linter.unusedSimpArgs false
set_option maxRecDepth 100000
set_option maxHeartbeats 1000000
namespace Go.Proofs.Ytcbjabnnokjnpaa.Fw
open Go Go.Fw Go.Proofs
attribute [local irreducible] stepI

end Go.Proofs.Ytcbjabnnokjnpaa.Fw
namespace Go.Proofs.Ytcbjabnnokjnpaa.Fw
open Go Go.Fw
section
variable {n_ : Nat} {u_ : List Nat} {rs_ : List RN} {es_ : List EN}
end
theorem culletlaw16_awake_spec (w : World) : CallV Try.prog 13 [] w fun v w' => v = .bool true ∧ RowKit.Below w.heap.size w w' := by
  refine ⟨by kernel_rfl, ?_⟩
  refine (Go.Proofs.Ytcbjabnnokjnpaa.PA.culletlaw16_awake.calls 60 true w (by decide +kernel)).mono ?_
  rintro e w' ⟨he, hB⟩
  exact ⟨_, he, rfl, hB⟩
end Go.Proofs.Ytcbjabnnokjnpaa.Fw
