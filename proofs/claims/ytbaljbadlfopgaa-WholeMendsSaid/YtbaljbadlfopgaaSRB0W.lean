import Derived.Test.YtbaljbadlfopgaaGfXW
import Derived.Test.YtbaljbadlfopgaaProg
import Derived.Test.YtbaljbadlfopgaaFwTW
import Derived.Test.YtbaljbadlfopgaaSMndW
set_option linter.all false
/- The document's product in GF(2^16): shift, add, reduce from the top; the even roots. Plain maths. -/
set_option linter.unusedVariables false
namespace Go.Fw
/-! Even roots. -/
end Go.Fw

set_option linter.unusedVariables false
set_option linter.unusedSimpArgs false
set_option maxRecDepth 100000
set_option maxHeartbeats 1000000
namespace Go.Proofs.Ytbaljbadlfopgaa.Fw
open Go Go.Fw Go.Proofs
attribute [local irreducible] stepI
end Go.Proofs.Ytbaljbadlfopgaa.Fw
namespace Go.Proofs.Ytbaljbadlfopgaa.Fw
open Go Go.Fw
end Go.Proofs.Ytbaljbadlfopgaa.Fw

/- The document's product in GF(2^8); powers as inverses. Plain maths. -/
set_option linter.unusedVariables false
namespace Go.Fw
/-! Squares of squares; their products. -/
section
variable {n : Nat} [F : Fd n]
def sqn (a : El n) : Nat → El n
  | 0 => a
  | k + 1 => sqn a k * sqn a k
def pin (a : El n) : Nat → El n
  | 0 => 1
  | k + 1 => pin a k * sqn a (k + 1)
end
theorem sqn8 (a : El 8) : ∀ k, sqn a k = ⟨bsqn r8 a.v k⟩
  | 0 => rfl
  | k + 1 => by show sqn a k * sqn a k = _; rw [sqn8 a k]; rfl
theorem pin8 (a : El 8) : ∀ k, pin a k = ⟨bin r8 a.v k⟩
  | 0 => rfl
  | k + 1 => by show pin a k * sqn a (k + 1) = _; rw [pin8 a k, sqn8]; rfl
theorem pin_inv8 (a : El 8) : pin a 7 = a.inv := pin8 a 7
end Go.Fw

set_option linter.unusedVariables false
set_option linter.unusedSimpArgs false
set_option maxRecDepth 100000
set_option maxHeartbeats 1000000
namespace Go.Proofs.Ytbaljbadlfopgaa.Fw
open Go Go.Fw Go.Proofs
attribute [local irreducible] stepI
end Go.Proofs.Ytbaljbadlfopgaa.Fw
namespace Go.Proofs.Ytbaljbadlfopgaa.Fw
open Go Go.Fw
end Go.Proofs.Ytbaljbadlfopgaa.Fw

set_option linter.unusedVariables false
set_option linter.unusedSimpArgs false
set_option maxRecDepth 100000
set_option maxHeartbeats 1000000
namespace Go.Proofs.Ytbaljbadlfopgaa.Fw
open Go Go.Fw Go.Proofs
attribute [local irreducible] stepI

end Go.Proofs.Ytbaljbadlfopgaa.Fw
namespace Go.Proofs.Ytbaljbadlfopgaa.Fw
open Go Go.Fw
end Go.Proofs.Ytbaljbadlfopgaa.Fw

namespace Go.Proofs.Ytbaljbadlfopgaa.Fw
open Go Go.Fw
end Go.Proofs.Ytbaljbadlfopgaa.Fw

namespace Go.Proofs.Ytbaljbadlfopgaa.Fw
open Go Go.Fw
end Go.Proofs.Ytbaljbadlfopgaa.Fw

namespace Go.Proofs.Ytbaljbadlfopgaa.Fw
open Go Go.Fw
end Go.Proofs.Ytbaljbadlfopgaa.Fw
